/- Rows of numbers in an append, told by hand, are read so; no conditions. -/
import Derived.Test.YtcpjlbdjnaaaiaaGreatDoorRM
import Derived.Test.YtcpjlbdjnaaaiaaGreatDoorPAllx27
set_option linter.unusedSimpArgs false
set_option linter.unusedVariables false
namespace Go.Proofs.YtcpjlbdjnaaaiaaGreatDoor.Pure
open Go Go.RowKit Go.Proofs.YtcpjlbdjnaaaiaaGreatDoor.PAll Go.Proofs.YtcpjlbdjnaaaiaaGreatDoor.Num Go.Proofs.YtcpjlbdjnaaaiaaGreatDoor.Help Go.Proofs.YtcpjlbdjnaaaiaaGreatDoorW.PrintWords Go.Proofs.YtcpjlbdjnaaaiaaGreatDoorW.PrintLast Go.Proofs.YtcpjlbdjnaaaiaaGreatDoorW.PrintMore
theorem rows_end (k:Nat) (hk:500≤k) (l:List Int) (w:Int) (i:Int) (R:List (List Int)) (hi:¬ i < (l.length:Int)) (hR:R≠[]) (hne:∀ r∈R,r≠[]) (hf:R.flatten.length≤60) (hn:∀ r∈R,∀ x∈r,isN x):
    norialaw25_ReqRows.l0 (k+1) l w (ofL (pre++rowsT R)) (R.map (List.map numV)) i=some true:=by
  have hlen:=rows_len R hne hn;have hpre:pre.length=7:=rfl;obtain ⟨r,Rs,rfl⟩:=List.exists_cons_of_ne_nil hR;obtain ⟨x,xs,rfl⟩:=List.exists_cons_of_ne_nil (hne r List.mem_cons_self)
  have hrl:∀ r∈(x :: xs) :: Rs,r.length≤80:=fun r hr=>by
    have:=List.Sublist.length_le (List.sublist_flatten_of_mem hr);omega
  have hrt:∀ r∈(x :: xs) :: Rs,(rowT r).length≤1000000:=fun r hr=>by
    have h1:=row_len r (hn r hr);have h2:=hrl r hr;omega
  rw [norialaw25_ReqRows.l0,if_neg hi];have hfl:((x :: xs) :: Rs).flatten.length=xs.length+1+Rs.flatten.length:=by rw [List.flatten_cons,List.length_append,List.length_cons]
  have hp:=parse_rows k (by omega) x xs Rs (by omega) (fun r hr=>hne r (List.mem_cons_of_mem _ hr)) (hn _ List.mem_cons_self) (fun r hr=>hn r (List.mem_cons_of_mem _ hr)) (by rw [← rowsT_cons,List.length_append];omega);rw [← rowsT_cons] at hp;have ht:=text_append k (by omega) ((x :: xs) :: Rs) hR hne (by omega) (by omega) hn hrt (by omega);have hp2:req_Parse.f k (ofL (pre++rowsT ((x :: xs) :: Rs)))=some (4,0,[],0,0,0,0,⟨#[]⟩,(0,0),(0,0),(0,0),[],((x :: xs) :: Rs).map (List.map numV),0):=hp;rw [hp2,Option.bind_some,ht,Option.bind_some];try dsimp only
  rw [show wrap64 ((0:Int)+0)=0 from by unfold wrap64;omega,if_pos rfl,if_pos rfl,if_pos rfl];unfold norialaw3_OfRows.f;have ho:=of_rows ((x :: xs) :: Rs).length k 0 ((x :: xs) :: Rs) (by omega) (by omega) (by omega) hrl;rw [List.take_zero,List.map_nil,show ((0:Nat):Int)=0 from rfl] at ho;rw [ho,Option.bind_some];unfold norialaw3_SameRows.f;have hs:=same_rows ((x :: xs) :: Rs).length k 0 ((x :: xs) :: Rs) (by omega) (by omega) (by omega) hrl;rw [show ((0:Nat):Int)=0 from rfl] at hs;rw [if_pos (by rw [List.length_map,List.length_map]),hs,Option.bind_some]
theorem rd_at {l:List Int} {i:Nat} (h:i < l.length):rd l (i:Int)=l[i]:=by
  unfold rd;rw [Int.toNat_natCast,List.getD_eq_getElem?_getD,List.getElem?_eq_getElem h];rfl
theorem rows_loop (l:List Int) (w:Nat) (hl:l.length≤60) (h0:0 < l.length) (hw1:1≤w) (hw5:w≤5) (hn:∀ x∈l,isN x):∀ (n k i:Nat) (R:List (List Int)),i+n=l.length→n+600≤k →
    (∀ r∈R,r≠[])→R.flatten=l.take i→(0 < i→R≠[]) →
    norialaw25_ReqRows.l0 k l (w:Int) (ofL (pre++rowsT R)) (R.map (List.map numV)) (i:Int)=some true:=by
  intro n
  induction n with
  |zero=>
   intro k i R hd hk hne hfl hpos;obtain ⟨k,rfl⟩:∃ q,k=q+1:=⟨k - 1,by omega⟩;have hfn:R.flatten.length≤60:=by rw [hfl,List.length_take];omega
   have hnR:∀ r∈R,∀ x∈r,isN x:=fun r hr x hx=>hn x (List.mem_of_mem_take (by rw [← hfl];exact List.mem_flatten.2 ⟨r,hr,hx⟩))
   have hlen:=rows_len R hne hnR;have hpre:pre.length=7:=rfl;have hsz:(ofL (pre++rowsT R)).size≤10000:=by rw [ofL_size,List.length_append];omega
   exact rows_end k (by omega) l w i R (by omega) (hpos (by omega)) hne hfn hnR
  |succ n ih=>
   intro k i R hd hk hne hfl hpos;obtain ⟨k,rfl⟩:∃ q,k=q+1:=⟨k - 1,by omega⟩;have hfn:R.flatten.length≤60:=by rw [hfl,List.length_take];omega
   have hnR:∀ r∈R,∀ x∈r,isN x:=fun r hr x hx=>hn x (List.mem_of_mem_take (by rw [← hfl];exact List.mem_flatten.2 ⟨r,hr,hx⟩))
   have hlen:=rows_len R hne hnR;have hpre:pre.length=7:=rfl;have hsz:(ofL (pre++rowsT R)).size≤10000:=by rw [ofL_size,List.length_append];omega
   have hi:i < l.length:=by omega
   have hx:=hn _ (List.getElem_mem hi);have hdec:=decimal k (by omega) l[i] hx.1 hx.2;have hil:=Lib.itoa_length_le l[i] hx.1 hx.2;have htake:l.take (i+1)=l.take i++[l[i]]:=by rw [List.take_add_one,List.getElem?_eq_getElem hi];rfl
   have hrd:=rd_at hi;have hds:(ofL (Lib.itoa l[i])).size≤21:=by rw [ofL_size];exact hil
   have hw:wrap64 ((i:Int)+1)=((i+1:Nat):Int):=by rw [w64 (by omega) (by omega)];rfl
   have HW:=Aside0.mk hw;clear hw;rw [norialaw25_ReqRows.l0,if_pos (by omega),if_neg (by omega)];by_cases hm:Int.tmod (i:Int) (w:Int)=0
   ·have hnew:∀ r∈R++[[l[i]]],r≠[]:=fun r hr=>by
      rcases List.mem_append.1 hr with h|h
      ·exact hne r h
      ·rw [List.mem_singleton.1 h];simp
    have hfl2:(R++[[l[i]]]).flatten=l.take (i+1):=by rw [List.flatten_append,hfl,htake];simp
    have hlast:wrap64 (((R.map (List.map numV)++[[]]:List (List S25)).length:Int) - 1)=((R.map (List.map numV)).length:Int):=by
      rw [List.length_append,List.length_singleton,List.length_map,w64 (by omega) (by omega)]
      push_cast
      omega
    have HL:=Aside0.mk hlast;clear hlast
    have hset:(R.map (List.map numV)++[[]]:List (List S25)).set (((R.map (List.map numV)).length:Int)).toNat ([]++[(⟨1,l[i],⟨#[]⟩,(0,0)⟩:S25)])=(R++[[l[i]]]).map (List.map numV):=by
      rw [Int.toNat_natCast,List.set_append_right _ _ (Nat.le_refl _)];simp [numV]
    rw [if_pos hm,if_pos (by rw [List.length_map];omega),Option.bind_some];by_cases hz:i=0
    ·subst hz
     have hR0:R=[]:=by
       cases R with
       |nil=>rfl
       |cons r R=>
        exfalso;have h1:=hne r List.mem_cons_self;have h2:((r :: R).flatten).length=0:=by rw [hfl];rfl
        rw [List.flatten_cons,List.length_append] at h2;have:=List.length_pos_iff.2 h1;omega
     subst hR0;rw [if_neg (by decide),if_pos (by decide),hrd,hdec,Option.bind_some,if_pos (by omega),HL.out,if_pos (Int.natCast_nonneg _),if_pos (by rw [List.length_append,List.length_singleton];omega)];unfold norialaw3_N.f;rw [Option.bind_some,rd_last (α:=Unit),if_pos (by simp),hset,HW.out]
     have e:ofL (pre++rowsT [])++ofL (Lib.itoa l[0])=ofL (pre++rowsT ([]++[[l[0]]])):=by
       rw [ofL_app,List.nil_append,rowsT_one];simp [rowsT,Lib.join,rowT,List.intercalate]
     rw [e];exact ih k (0+1) ([]++[[l[0]]]) (by omega) (by omega) hnew hfl2 (fun _=>by simp)
    ·have hRn:=hpos (by omega)
     rw [if_pos (show (i:Int) > 0 by omega),if_pos (show (ofL (pre++rowsT R)).size+1≤9223372036854775807 by omega),if_pos (Int.natCast_nonneg i),hrd,hdec,Option.bind_some,if_pos (by omega),HL.out,if_pos (Int.natCast_nonneg _),if_pos (by rw [List.length_append,List.length_singleton];omega)];unfold norialaw3_N.f;rw [Option.bind_some,rd_last (α:=Unit),if_pos (by simp),hset,HW.out]
     have e:(ofL (pre++rowsT R)++(⟨#[59]⟩:ByteArray))++ofL (Lib.itoa l[i])=ofL (pre++rowsT (R++[[l[i]]])):=by
       have e1:(⟨#[59]⟩:ByteArray)=ofL [59]:=rfl;rw [e1,ofL_app,ofL_app,rowsT_snoc hRn];have e2:rowT [l[i]]=Lib.itoa l[i]:=by unfold rowT;rw [List.map_singleton,Lib.join_one]
       rw [e2];simp
     rw [e];exact ih k (i+1) (R++[[l[i]]]) (by omega) (by omega) hnew hfl2 (fun _=>by simp)
   ·have hi0:0 < i:=by
      rcases Nat.eq_zero_or_pos i with h|h
      ·subst h;exact absurd (Int.zero_tmod _) hm
      ·exact h
    have hRn:=hpos hi0;obtain ⟨D,d,rfl⟩:∃ D d,R=D++[d]:=⟨R.dropLast,R.getLast hRn,(List.dropLast_concat_getLast hRn).symm⟩;have hdn:d≠[]:=hne d (by simp)
    have hdl:d.length≤60:=by
      have:=List.Sublist.length_le (List.sublist_flatten_of_mem (l:=d) (L:=D++[d]) (by simp));omega
    have hnew:∀ r∈D++[d++[l[i]]],r≠[]:=fun r hr=>by
      rcases List.mem_append.1 hr with h|h
      ·exact hne r (List.mem_append_left _ h)
      ·rw [List.mem_singleton.1 h];simp
    have hfl2:(D++[d++[l[i]]]).flatten=l.take (i+1):=by
      rw [htake,← hfl];simp
    have hmap:(D++[d]).map (List.map numV)=D.map (List.map numV)++[d.map numV]:=by simp
    have hDl:D.length≤60:=by
      have:=hlen.2;rw [List.length_append] at this;omega
    have hlast:wrap64 (((D.map (List.map numV)++[d.map numV]:List (List S25)).length:Int) - 1)=((D.map (List.map numV)).length:Int):=by
      rw [List.length_append,List.length_singleton,List.length_map,w64 (by omega) (by omega)]
      push_cast
      omega
    have HL:=Aside0.mk hlast;clear hlast
    have hset:(D.map (List.map numV)++[d.map numV]:List (List S25)).set (((D.map (List.map numV)).length:Int)).toNat (d.map numV++[(⟨1,l[i],⟨#[]⟩,(0,0)⟩:S25)])=(D++[d++[l[i]]]).map (List.map numV):=by
      rw [Int.toNat_natCast,List.set_append_right _ _ (Nat.le_refl _)];simp [numV]
    rw [if_neg hm,if_pos (show (ofL (pre++rowsT (D++[d]))).size+1≤9223372036854775807 by omega),if_pos (Int.natCast_nonneg i),hrd,hdec,Option.bind_some,if_pos (by omega),hmap,HL.out,if_pos (Int.natCast_nonneg _),if_pos (by rw [List.length_append,List.length_singleton];omega)];unfold norialaw3_N.f;rw [Option.bind_some,rd_last (α:=Unit),if_pos (by rw [List.length_map];omega),hset,HW.out]
    have e:(ofL (pre++rowsT (D++[d]))++(⟨#[44]⟩:ByteArray))++ofL (Lib.itoa l[i])=ofL (pre++rowsT (D++[d++[l[i]]])):=by
      have e1:(⟨#[44]⟩:ByteArray)=ofL [44]:=rfl;rw [e1,ofL_app,ofL_app,rowsT_ext D hdn];simp
    rw [e];exact ih k (i+1) (D++[d++[l[i]]]) (by omega) (by omega) hnew hfl2 (fun _=>by simp)
theorem wf_int {a:Int} (h:(Lit.int .i64 a).wf=true):isN a:=by
  simp [Lit.wf,IntKind.min,IntKind.max,IntKind.signed,IntKind.bits] at h;unfold isN;omega
theorem ReqRows:norialaw25_ReqRows.Pure:=by
  intro l a hm hr hw ha
  have hb:0≤a∧a≤255:=by
    simp [Lit.wf,IntKind.min,IntKind.max,IntKind.signed,IntKind.bits] at ha;omega
  obtain ⟨n,rfl⟩:=Int.eq_ofNat_of_zero_le hb.1;refine ⟨1001,?_⟩;unfold norialaw25_ReqRows.f norialaw25_known.f;rw [Option.bind_some,if_pos rfl];by_cases h0:(l.length:Int)=0
  ·rw [if_pos h0,norialaw25_ReqRows.j0,if_pos rfl]
  ·rw [if_neg h0,norialaw25_ReqRows.j0]
   by_cases h60:(l.length:Int) > 60
   ·rw [if_pos (decide_eq_true h60)]
   ·rw [if_neg (by simpa using h60)]
    have e:wrap64 (1+wrap64 (Int.tmod (n:Int) 5))=((1+n % 5:Nat):Int):=by
      have h1:Int.tmod (n:Int) 5=((n % 5:Nat):Int):=rfl;have e0:wrap64 ((n % 5:Nat):Int)=((n % 5:Nat):Int):=w64 (by omega) (by omega);rw [h1,e0,w64 (by omega) (by omega)]
      push_cast
      rfl
    rw [e];have:=rows_loop l (1+n % 5) (by omega) (by omega) (by omega) (by omega) (fun x hx=>wf_int (hw x hx)) l.length 1000 0 [] (by omega) (by omega) (fun r hr=>by cases hr) rfl (fun h=>by omega);exact this
end Go.Proofs.YtcpjlbdjnaaaiaaGreatDoor.Pure
