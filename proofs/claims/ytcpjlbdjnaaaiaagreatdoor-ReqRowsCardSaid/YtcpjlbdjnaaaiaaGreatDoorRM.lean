import Derived.Lib.ParseIntB
import Derived.Lib.SlTrimSet
import Derived.Stop.FmtTextWidths
import Derived.Test.YtcpjlbdjnaaaiaaGreatDoorPAllx17
import Derived.Test.YtcpjlbdjnaaaiaaGreatDoorPAllx4
import Derived.Test.YtcpjlbdjnaaaiaaGreatDoorPAllx21
import Derived.Test.YtcpjlbdjnaaaiaaGreatDoorPAllx13
import Derived.Test.YtcpjlbdjnaaaiaaGreatDoorPAllx26
import Derived.Test.YtcpjlbdjnaaaiaaGreatDoorPAllx24
/- Numerals there and back: plain lemmas (no program). -/
set_option linter.unusedSimpArgs false
set_option linter.unusedVariables false
namespace Go.Proofs.YtcpjlbdjnaaaiaaGreatDoor.Num
open Go
def isD (c:UInt8):Prop:=48≤c.toNat∧c.toNat≤57
theorem dec_digits:∀ (u:Nat),∀ c∈Lib.decDigits u,isD c:=by
  intro u
  induction u using Nat.strongRecOn with
  |_ u ih=>
   intro c hc;rw [Lib.decDigits] at hc
   split at hc
   ·rename_i h
    rw [List.mem_singleton] at hc;subst hc;unfold isD;rw [UInt8.toNat_ofNat'];omega
   ·rename_i h
    rcases List.mem_append.mp hc with h'|h'
    ·exact ih (u / 10) (by omega) c h'
    ·rw [List.mem_singleton] at h'
     subst h';unfold isD;rw [UInt8.toNat_ofNat'];omega
theorem dec_pos (u:Nat):1≤(Lib.decDigits u).length:=by rw [Lib.decDigits_length];exact Lib.nDigits_pos u
def valOf (acc:Nat) (l:List UInt8):Nat:=l.foldl (fun a c=>a * 10+(c.toNat - 48)) acc
theorem valOf_append (acc:Nat) (a b:List UInt8):valOf acc (a++b)=valOf (valOf acc a) b:=by simp [valOf]
theorem valOf_le (l:List UInt8):∀ acc,acc≤valOf acc l:=by
  induction l with
  |nil=>intro acc;exact Nat.le_refl _
  |cons c l ih=>intro acc;have:=ih (acc * 10+(c.toNat - 48));simp only [valOf,List.foldl_cons] at this ⊢;omega
theorem val_dec (u:Nat):valOf 0 (Lib.decDigits u)=u:=by
  induction u using Nat.strongRecOn with
  |_ u ih=>
   rw [Lib.decDigits]
   split
   ·rename_i h
    simp only [valOf,List.foldl_cons,List.foldl_nil];rw [UInt8.toNat_ofNat'];omega
   ·rename_i h
    rw [valOf_append,ih (u / 10) (by omega)];simp only [valOf,List.foldl_cons,List.foldl_nil];rw [UInt8.toNat_ofNat'];omega
theorem dec_head (u:Nat) (h:1 < (Lib.decDigits u).length):(Lib.decDigits u).head?≠some 48:=by
  induction u using Nat.strongRecOn with
  |_ u ih=>
   rw [Lib.decDigits] at h ⊢
   split at h
   ·simp at h
   ·rename_i h'
    rw [dif_neg h'];by_cases h1:1 < (Lib.decDigits (u / 10)).length
    ·have:=ih (u / 10) (by omega) h1
     cases hd:Lib.decDigits (u / 10) with
     |nil=>rw [hd] at h1;simp at h1
     |cons a t=>rw [hd] at this;simpa using this
    ·have h2:=dec_pos (u / 10)
     by_cases h3:u / 10 < 10
     ·rw [Lib.decDigits,dif_pos h3]
      simp only [List.cons_append,List.head?_cons,ne_eq,Option.some.injEq];intro e;have:=congrArg UInt8.toNat e;rw [UInt8.toNat_ofNat'] at this;simp at this;omega
     ·rw [Lib.decDigits,dif_neg h3] at h1
      have:=dec_pos (u / 10 / 10);simp at h1;rw [h1] at this;simp at this
theorem parseM_ok:∀ (l:List UInt8) (acc M:Nat),(∀ c∈l,isD c)→valOf acc l≤M→M < 18446744073709551616→Lib.parseUintM M acc l = .ok (valOf acc l):=by
  intro l
  induction l with
  |nil=>intro acc M _ _ _;rfl
  |cons c l ih=>
   intro acc M hd hv hM;have hc:=hd c (by simp);unfold isD at hc;have h1:=valOf_le l (acc * 10+(c.toNat - 48));have h2:valOf acc (c :: l)=valOf (acc * 10+(c.toNat - 48)) l:=rfl;rw [h2] at hv ⊢;unfold Lib.parseUintM;rw [if_pos hc,if_neg (by omega),if_neg (by omega)];exact ih _ M (fun c h=>hd c (by simp [h])) hv hM
theorem dec_cons (u:Nat):∃ c l,Lib.decDigits u=c :: l∧isD c:=by
  cases h:Lib.decDigits u with
  |nil=>have:=dec_pos u;rw [h] at this;simp at this
  |cons c l=>exact ⟨c,l,rfl,dec_digits u c (by rw [h];simp)⟩
theorem parseU_dec (u:Nat) (h:u < 18446744073709551616):Lib.parseUintB 64 (Lib.decDigits u) = .ok u:=by
  unfold Lib.parseUintB;obtain ⟨c,l,e,_⟩:=dec_cons u;rw [if_neg (by rw [e];simp),parseM_ok _ 0 _ (dec_digits u) (by rw [val_dec];omega) (by decide),val_dec]
theorem parse_itoa (a:Int) (h0 : -9223372036854775808≤a) (h1:a≤9223372036854775807):Lib.parseIntB 64 (Lib.itoa a) = .ok a:=by
  unfold Lib.itoa
  split
  ·rename_i h
   simp only [Lib.parseIntB];rw [if_pos (by decide),parseU_dec _ (by omega)];simp only [];rw [if_neg (by simp),if_neg (by simp;omega),if_pos (by decide)]
   congr 1
   omega
  ·rename_i h
   obtain ⟨c,l,e,hc⟩:=dec_cons a.toNat;rw [e];unfold isD at hc;simp only [Lib.parseIntB];rw [if_neg (by omega),← e,parseU_dec _ (by omega)];simp only [];rw [if_neg (by simp;omega),if_neg (by simp;omega),if_neg (by omega)]
   congr 1
   omega
theorem drop_all {p:UInt8→Bool}:∀ {l:List UInt8},(∀ c∈l,p c=true)→l.dropWhile p=[]:=by
  intro l h
  induction l with
  |nil=>rfl
  |cons c l ih=>rw [List.dropWhile_cons,if_pos (h c (by simp))];exact ih fun c' h'=>h c' (by simp [h'])
/-- Where all is in the set, nothing is left. -/
theorem trim_all {l cs:List UInt8} (h:∀ c∈l,cs.contains c=true):Lib.trimS l cs=[]:=by
  unfold Lib.trimS Lib.trimRightS;rw [drop_all (fun c hc=>h c (List.mem_reverse.mp hc))];rfl
theorem digit_in {c:UInt8} (h:isD c):([48,49,50,51,52,53,54,55,56,57]:List UInt8).contains c=true:=by
  have key:∀ n:Fin 256,48≤n.val→n.val≤57→([48,49,50,51,52,53,54,55,56,57]:List UInt8).contains (UInt8.ofNat n.val)=true:=by decide +kernel
  have:=key ⟨c.toNat,UInt8.toNat_lt c⟩ h.1 h.2
  simpa using this
end Go.Proofs.YtcpjlbdjnaaaiaaGreatDoor.Num
/- What the strings' functions tell at one byte. -/
set_option linter.unusedSimpArgs false
set_option linter.unusedVariables false
namespace Go.Proofs.YtcpjlbdjnaaaiaaGreatDoor.Num
open Go Go.RowKit Go.Proofs.YtcpjlbdjnaaaiaaGreatDoor.PAll Go.Proofs.YtcpjlbdjnaaaiaaGreatDoor.Help Go.Proofs.YtcpjlbdjnaaaiaaGreatDoorW.PrintWords Go.Proofs.YtcpjlbdjnaaaiaaGreatDoorW.PrintLast Go.Proofs.YtcpjlbdjnaaaiaaGreatDoorW.PrintMore
/-- Bytes out of a list. -/
abbrev ofL (l:List UInt8):ByteArray:=⟨l.toArray⟩
theorem ofL_toList (l:List UInt8):(ofL l).toList=l:=by rw [ByteArray.toList_eq]
theorem ofL_data (l:List UInt8):(ofL l).data.toList=l:=rfl
theorem ofL_size (l:List UInt8):(ofL l).size=l.length:=rfl
theorem toList_ofL (s:ByteArray):ofL s.data.toList=s:=by cases s;rfl
theorem ofL_extract (l:List UInt8) (i j:Nat):(ofL l).extract i j=ofL ((l.take j).drop i):=by
  rw [← toList_ofL ((ofL l).extract i j)]
  congr 1
  rw [ByteArray.data_extract];simp [List.extract_eq_take_drop,List.drop_take]
theorem bt_ofL0 (c:UInt8) (l:List UInt8):bt (ofL (c :: l)) 0=(c.toNat:Int):=by
  unfold bt;rw [dif_pos (by rw [ofL_size];simp)];rfl
theorem prefix_one (l:List UInt8) (b:UInt8):strings_HasPrefix.f (ofL l) ⟨#[b]⟩=some (decide (l.head?=some b)):=by
  unfold strings_HasPrefix.f stringslite_HasPrefix.f;have h1:((⟨#[b]⟩:ByteArray).size:Int)=1:=rfl;have h2:(⟨#[b]⟩:ByteArray).toList=[b]:=by rw [ByteArray.toList_eq]
  rw [h1,h2,ofL_size]
  cases l with
  |nil=>rw [if_neg (by simp)];simp
  |cons c l=>
   rw [if_pos (by simp;omega),if_pos (by omega),if_pos (by simp;omega)];rw [show ((1:Int).toNat)=1 from rfl,ofL_extract,ofL_toList];simp [Bool.beq_eq_decide_eq]
theorem suffix_one (l:List UInt8) (b:UInt8) (hl:l.length≤281474976710656):strings_HasSuffix.f (ofL l) ⟨#[b]⟩=some (decide (l.getLast?=some b)):=by
  unfold strings_HasSuffix.f stringslite_HasSuffix.f;have h1:((⟨#[b]⟩:ByteArray).size:Int)=1:=rfl;have h2:(⟨#[b]⟩:ByteArray).toList=[b]:=by rw [ByteArray.toList_eq]
  rw [h1,h2,ofL_size];rcases List.eq_nil_or_concat l with rfl|⟨m,c,rfl⟩
  ·rw [if_neg (by simp)];simp
  ·simp only [List.concat_eq_append,List.length_append,List.length_cons,List.length_nil] at hl ⊢
   have e:wrap64 (((m.length+(0+1):Nat):Int) - 1)=(m.length:Int):=by unfold wrap64;omega
   rw [if_pos (by omega),e,if_pos (by omega),if_pos (by omega),ofL_extract,ofL_toList,Int.toNat_natCast,List.take_of_length_le (by simp)];simp [Bool.beq_eq_decide_eq]
theorem trimPrefix_one (l:List UInt8) (b:UInt8):strings_TrimPrefix.f (ofL l) ⟨#[b]⟩=some (ofL (if l.head?=some b then l.drop 1 else l)):=by
  unfold strings_TrimPrefix.f stringslite_TrimPrefix.f;have h0:=prefix_one l b;unfold strings_HasPrefix.f at h0
  have h0':stringslite_HasPrefix.f (ofL l) ⟨#[b]⟩=some (decide (l.head?=some b)):=by
    cases h:stringslite_HasPrefix.f (ofL l) ⟨#[b]⟩ with
    |none=>rw [h] at h0;simp at h0
    |some r=>rw [h] at h0;simpa using h0
  have h1:((⟨#[b]⟩:ByteArray).size:Int)=1:=rfl;rw [h0',h1,ofL_size];simp only [Option.bind_some];by_cases h:l.head?=some b
  ·cases l with
   |nil=>simp at h
   |cons c l=>
    rw [if_pos (by simpa using h),if_pos (by omega),if_pos (by simp;omega),if_pos h];rw [show ((1:Int).toNat)=1 from rfl,ofL_extract];simp
  ·rw [if_neg (by simpa using h),if_neg h]
   rfl
end Go.Proofs.YtcpjlbdjnaaaiaaGreatDoor.Num
/- A numeral read as a value. -/
set_option linter.unusedSimpArgs false
set_option linter.unusedVariables false
namespace Go.Proofs.YtcpjlbdjnaaaiaaGreatDoor.Num
open Go Go.RowKit Go.Proofs.YtcpjlbdjnaaaiaaGreatDoor.PAll Go.Proofs.YtcpjlbdjnaaaiaaGreatDoor.Help Go.Proofs.YtcpjlbdjnaaaiaaGreatDoorW.PrintWords Go.Proofs.YtcpjlbdjnaaaiaaGreatDoorW.PrintLast Go.Proofs.YtcpjlbdjnaaaiaaGreatDoorW.PrintMore
theorem itoa_cases (a:Int):(a < 0∧Lib.itoa a=45 :: Lib.decDigits a.natAbs)∨(0≤a∧Lib.itoa a=Lib.decDigits a.toNat):=by
  unfold Lib.itoa;by_cases h:a < 0
  ·exact .inl ⟨h,if_pos h⟩
  ·exact .inr ⟨by omega,if_neg h⟩
theorem digit_ne {c:UInt8} (h:isD c) {b:UInt8} (hb:b.toNat < 48∨57 < b.toNat):c≠b:=by
  intro e;subst e;unfold isD at h;omega
/-- The digits behind the sign. -/
theorem itoa_tail (a:Int):(if (Lib.itoa a).head?=some 45 then (Lib.itoa a).drop 1 else Lib.itoa a)=Lib.decDigits a.natAbs:=by
  rcases itoa_cases a with ⟨h,e⟩|⟨h,e⟩
  ·rw [e];simp
  ·rw [e,show a.toNat=a.natAbs by omega]
   obtain ⟨c,l,e',hc⟩:=dec_cons a.natAbs;rw [e',if_neg];simp only [List.head?_cons,Option.some.injEq];exact digit_ne hc (by decide)
theorem itoa_last (a:Int):∃ c,(Lib.itoa a).getLast?=some c∧isD c:=by
  have key:∀ u,∃ c,(Lib.decDigits u).getLast?=some c∧isD c:=by
    intro u;obtain ⟨c,l,e,hc⟩:=dec_cons u
    cases hl:(Lib.decDigits u).getLast? with
    |none=>rw [List.getLast?_eq_none_iff] at hl;rw [hl] at e;cases e
    |some d=>exact ⟨d,rfl,dec_digits u d (List.mem_of_getLast? hl)⟩
  rcases itoa_cases a with ⟨h,e⟩|⟨h,e⟩
  ·obtain ⟨c,h1,h2⟩:=key a.natAbs
   refine ⟨c,?_,h2⟩;rw [e,List.getLast?_cons,h1];rfl
  ·rw [e];exact key _
theorem itoa_head (a:Int):∃ c l,Lib.itoa a=c :: l∧(c=45∨isD c):=by
  rcases itoa_cases a with ⟨h,e⟩|⟨h,e⟩
  ·exact ⟨_,_,e,.inl rfl⟩
  ·obtain ⟨c,l,e',hc⟩:=dec_cons a.toNat
   exact ⟨c,l,e.trans e',.inr hc⟩
theorem text_num (k:Nat) (a:Int) (h0 : -9223372036854775808≤a) (h1:a≤9223372036854775807):val_Text.f k 1 a ⟨#[]⟩ (0,0)=some (ofL (Lib.itoa a)):=by
  unfold val_Text.f strconv_FormatInt.f;rw [if_pos rfl,if_pos ⟨rfl,h0,h1⟩];rfl
theorem trim_dec (u:Nat) (h:u < 18446744073709551616) (hl:(Lib.decDigits u).length≤21):strings_Trim.f (ofL (Lib.decDigits u)) ⟨#[48,49,50,51,52,53,54,55,56,57]⟩=some (ofL []):=by
  unfold strings_Trim.f;rw [if_pos ⟨by rw [ofL_size];omega,by decide,by decide⟩,ofL_data];rw [show ((⟨#[48,49,50,51,52,53,54,55,56,57]⟩:ByteArray).data.toList)=[48,49,50,51,52,53,54,55,56,57] from rfl,trim_all (fun c hc=>digit_in (dec_digits u c hc))]
theorem parse_num (k:Nat) (hk:2≤k) (a:Int) (h0 : -9223372036854775808≤a) (h1:a≤9223372036854775807):val_Parse.f k (ofL (Lib.itoa a))=some (1,a,⟨#[]⟩,(0,0),0):=by
  obtain ⟨k,rfl⟩:∃ m,k=m+1:=⟨k - 1,by omega⟩;have hlen:=Lib.itoa_length_le a h0 h1;obtain ⟨c,l,e,hc⟩:=itoa_head a;obtain ⟨d,hd,hd2⟩:=itoa_last a
  have hdl:(Lib.decDigits a.natAbs).length≤21:=by
    have:=itoa_tail a;rw [← this]
    split
    ·rw [List.length_drop];omega
    ·exact hlen
  have hn45:Lib.itoa a≠[45]:=by
    intro h;rw [h] at hd;simp at hd;subst hd;exact absurd hd2 (by unfold isD;decide)
  have hj:val_Parse.j0 (k+1) (ofL (Lib.itoa a)) false=some (1,a,⟨#[]⟩,(0,0),0):=by
    simp only [val_Parse.j0,strconv_ParseInt.f,Bool.false_eq_true,if_false];rw [if_pos ⟨by rw [ofL_size];omega,trivial,trivial⟩,parse_itoa a h0 h1];rfl
  unfold val_Parse.f;rw [ofL_toList,if_neg hn45,prefix_one,Option.bind_some]
  rw [if_neg (by
   rw [e];simp only [List.head?_cons,Option.some.injEq,decide_eq_true_eq];rcases hc with rfl|hc
   ·decide
   ·exact digit_ne hc (by decide))]
  rw [suffix_one _ _ (by omega),Option.bind_some]
  rw [if_neg (by
   rw [hd];simp only [Option.some.injEq,decide_eq_true_eq]
   exact digit_ne hd2 (by decide))]
  rw [trimPrefix_one,Option.bind_some,itoa_tail];obtain ⟨x,m,ex,hx⟩:=dec_cons a.natAbs
  have h45:((Lib.itoa a) == ([45,48]:List UInt8))=false:=by
    rw [beq_eq_false_iff_ne];intro h;rcases itoa_cases a with ⟨hneg,e2⟩|⟨hneg,e2⟩
    ·rw [h] at e2
     have e3:=(List.cons.inj e2).2;have:=val_dec a.natAbs;rw [← e3] at this;simp [valOf] at this;omega
    ·rw [e2] at h
     have:isD 45:=dec_digits a.toNat 45 (by rw [h];simp);exact absurd this (by unfold isD;decide)
  rw [ofL_toList,if_neg (by rw [ex];simp),trim_dec _ (by omega) hdl,Option.bind_some,ofL_toList,if_pos rfl,h45];by_cases h2:((ofL (Lib.decDigits a.natAbs)).size:Int) > 1
  ·rw [if_pos h2,if_pos (by omega)]
   have h3:=dec_head a.natAbs (by rw [ofL_size] at h2;omega);rw [if_neg]
   ·exact hj
   ·rw [ex,bt_ofL0]
    rw [ex] at h3;intro h4;apply h3;rw [List.head?_cons]
    congr 1
    apply UInt8.toNat_inj.1;simp;omega
  ·rw [if_neg h2]
   exact hj
end Go.Proofs.YtcpjlbdjnaaaiaaGreatDoor.Num
/- Rows of numbers in words, and how they are read. -/
set_option linter.unusedSimpArgs false
set_option linter.unusedVariables false
namespace Go.Proofs.YtcpjlbdjnaaaiaaGreatDoor.Num
open Go Go.RowKit Go.Proofs.YtcpjlbdjnaaaiaaGreatDoor.PAll Go.Proofs.YtcpjlbdjnaaaiaaGreatDoor.Help Go.Proofs.YtcpjlbdjnaaaiaaGreatDoorW.PrintWords Go.Proofs.YtcpjlbdjnaaaiaaGreatDoorW.PrintLast Go.Proofs.YtcpjlbdjnaaaiaaGreatDoorW.PrintMore
theorem w64' {x:Int} (h0 : -9223372036854775808≤x) (h1:x≤9223372036854775807):wrap64 x=x:=by unfold wrap64;omega
def numV (x:Int):S25:=⟨1,x,⟨#[]⟩,(0,0)⟩
def isN (x:Int):Prop:= -9223372036854775808≤x∧x≤9223372036854775807
def rowT (r:List Int):List UInt8:=Lib.join (r.map Lib.itoa) [44]
def rowsT (R:List (List Int)):List UInt8:=Lib.join (R.map rowT) [59]
/-- What stands behind a number: the row's others, then the other rows. -/
def tl (xs:List Int) (Rs:List (List Int)):List UInt8:=Lib.joinTail [44] (xs.map Lib.itoa)++Lib.joinTail [59] (Rs.map rowT)
theorem rowT_cons (x:Int) (xs:List Int):rowT (x :: xs)=Lib.itoa x++Lib.joinTail [44] (xs.map Lib.itoa):=by
  unfold rowT;rw [List.map_cons,Lib.join_cons]
theorem rowsT_cons (x:Int) (xs:List Int) (Rs:List (List Int)):rowsT ((x :: xs) :: Rs)=Lib.itoa x++tl xs Rs:=by
  unfold rowsT tl;rw [List.map_cons,Lib.join_cons,rowT_cons,List.append_assoc]
theorem tl_cons (y:Int) (ys:List Int) (Rs:List (List Int)):tl (y :: ys) Rs=44 :: (Lib.itoa y++tl ys Rs):=by
  simp [tl,Lib.joinTail]
theorem tl_row (y:Int) (ys:List Int) (Rs:List (List Int)):tl [] ((y :: ys) :: Rs)=59 :: (Lib.itoa y++tl ys Rs):=by
  unfold tl;rw [List.map_cons];simp [Lib.joinTail,rowT_cons]
theorem tl_nil:tl [] []=[]:=rfl
theorem rowT_snoc {d:List Int} (hd:d≠[]) (x:Int):rowT (d++[x])=rowT d++44 :: Lib.itoa x:=by
  obtain ⟨y,ys,rfl⟩:=List.exists_cons_of_ne_nil hd;rw [List.cons_append,rowT_cons,rowT_cons];simp [Lib.joinTail]
theorem rowsT_snoc {R:List (List Int)} (hR:R≠[]) (r:List Int):rowsT (R++[r])=rowsT R++59 :: rowT r:=by
  obtain ⟨y,ys,rfl⟩:=List.exists_cons_of_ne_nil hR;unfold rowsT;rw [List.cons_append,List.map_cons,List.map_cons,Lib.join_cons,Lib.join_cons];simp [Lib.joinTail]
theorem rowsT_one (r:List Int):rowsT [r]=rowT r:=by unfold rowsT;rw [List.map_singleton,Lib.join_one]
theorem rowsT_ext (D:List (List Int)) {d:List Int} (hd:d≠[]) (x:Int):rowsT (D++[d++[x]])=rowsT (D++[d])++44 :: Lib.itoa x:=by
  by_cases hD:D=[]
  ·subst hD
   rw [List.nil_append,List.nil_append,rowsT_one,rowsT_one,rowT_snoc hd]
  ·rw [rowsT_snoc hD,rowsT_snoc hD,rowT_snoc hd]
   simp
/-! ### the signs -/
def stops:List UInt8:=[32,44,59,41]
theorem itoa_plain (x:Int):∀ c∈Lib.itoa x,stops.contains c=false∧c.toNat < 128:=by
  intro c hc
  have h:c=45∨isD c:=by
    rcases itoa_cases x with ⟨_,e⟩|⟨_,e⟩
    ·rw [e] at hc
     rcases List.mem_cons.1 hc with h|h
     ·exact .inl h
     ·exact .inr (dec_digits _ c h)
    ·rw [e] at hc
     exact .inr (dec_digits _ c hc)
  have hs:∀ j:Fin 256,(j.val=45∨48≤j.val∧j.val≤57)→stops.contains (UInt8.ofNat j.val)=false∧(UInt8.ofNat j.val).toNat < 128:=by decide +kernel
  have:=hs ⟨c.toNat,c.toNat_lt⟩ (by rcases h with h|h;exact .inl (by rw [h];rfl);exact .inr h)
  rwa [UInt8.ofNat_toNat] at this
theorem index_at {w:List UInt8} (c:UInt8) (rest:List UInt8) (hw:∀ b∈w,stops.contains b=false) (hc:stops.contains c=true):Lib.indexAny (w++c :: rest) stops=(w.length:Int):=by
  induction w with
  |nil=>simp only [List.nil_append,Lib.indexAny,hc];rfl
  |cons b w ih=>
   have h:=ih (fun x hx=>hw x (List.mem_cons_of_mem _ hx));simp only [List.cons_append,Lib.indexAny,hw b List.mem_cons_self,h];rw [if_neg (by decide),if_neg (by first|(simp;done)|(simp;omega)),List.length_cons]
   push_cast
   rfl
theorem index_no {w:List UInt8} (hw:∀ b∈w,stops.contains b=false):Lib.indexAny w stops = -1:=by
  induction w with
  |nil=>rfl
  |cons b w ih=>
   have h:=ih (fun x hx=>hw x (List.mem_cons_of_mem _ hx));simp only [Lib.indexAny,hw b List.mem_cons_self,h];rfl
/-- A text of signs below 128. -/
def asc (l:List UInt8):Prop:=∀ b∈l,b.toNat < 128
theorem asc_app {a b:List UInt8} (ha:asc a) (hb:asc b):asc (a++b):=fun c hc=>(List.mem_append.1 hc).elim (ha c) (hb c)
theorem asc_cons {c:UInt8} {l:List UInt8} (hc:c.toNat < 128) (hl:asc l):asc (c :: l):=fun b hb=>(List.mem_cons.1 hb).elim (fun e=>e ▸ hc) (hl b)
theorem asc_itoa (x:Int):asc (Lib.itoa x):=fun c hc=>(itoa_plain x c hc).2
theorem asc_tail:∀ (xs:List Int),asc (Lib.joinTail [44] (xs.map Lib.itoa))
  | []=>fun c hc=>by simp [Lib.joinTail] at hc
  |x :: xs=>by
   have:=asc_tail xs;rw [List.map_cons];have e:Lib.joinTail [44] (Lib.itoa x :: xs.map Lib.itoa)=44 :: (Lib.itoa x++Lib.joinTail [44] (xs.map Lib.itoa)):=by simp [Lib.joinTail]
   rw [e];exact asc_cons (by decide) (asc_app (asc_itoa x) this)
theorem asc_row (r:List Int):asc (rowT r):=by
  cases r with
  |nil=>intro c hc;simp [rowT,Lib.join] at hc
  |cons x xs=>rw [rowT_cons];exact asc_app (asc_itoa x) (asc_tail xs)
theorem asc_tl (xs:List Int):∀ (Rs:List (List Int)),asc (tl xs Rs)
  | []=>by
    have:tl xs []=Lib.joinTail [44] (xs.map Lib.itoa):=by simp [tl,Lib.joinTail]
    rw [this];exact asc_tail xs
  |r :: Rs=>by
   have h:=asc_tl [] Rs;have h2:=asc_tail xs;have e:tl xs (r :: Rs)=Lib.joinTail [44] (xs.map Lib.itoa)++(59 :: (rowT r++tl [] Rs)):=by simp [tl,Lib.joinTail]
   rw [e];exact asc_app h2 (asc_cons (by decide) (asc_app (asc_row r) h))
/-- What stands behind a number begins with a stop, or is nothing. -/
theorem tl_head (xs:List Int) (Rs:List (List Int)):tl xs Rs=[]∨∃ c l,tl xs Rs=c :: l∧stops.contains c=true:=by
  cases xs with
  |cons y ys=>exact .inr ⟨_,_,tl_cons y ys Rs,by decide⟩
  |nil=>
   cases Rs with
   |nil=>exact .inl rfl
   |cons r Rs=>exact .inr ⟨59,rowT r++tl [] Rs,by simp [tl,Lib.joinTail],by decide⟩
/-! ### the reader -/
theorem word_at (a:List UInt8) (x:Int) (xs:List Int) (Rs:List (List Int)) (ha:asc a) (hl:(a++(Lib.itoa x++tl xs Rs)).length≤4000000000):
    req_reader_word.f (ofL (a++(Lib.itoa x++tl xs Rs))) (a.length:Int) 0=some (ofL (Lib.itoa x),ofL (a++(Lib.itoa x++tl xs Rs)),((a++Lib.itoa x).length:Int),0):=by
  have hlen:(a++(Lib.itoa x++tl xs Rs)).length=a.length+((Lib.itoa x).length+(tl xs Rs).length):=by simp
  have hasc:=asc_app ha (asc_app (asc_itoa x) (asc_tl xs Rs))
  have hx:(ofL (a++(Lib.itoa x++tl xs Rs))).extract ((a.length:Int)).toNat (ofL (a++(Lib.itoa x++tl xs Rs))).size=ofL (Lib.itoa x++tl xs Rs):=by
    rw [ofL_extract,Int.toNat_natCast,ofL_size,List.take_length,List.drop_left]
  unfold req_reader_word.f req_reader_upTo.f;rw [if_pos ⟨by omega,by rw [ofL_size];omega,by rw [ofL_size];omega⟩,hx];unfold strings_IndexAny.f;have hall:∀ {l:List UInt8},asc l→(l.all fun b=>decide (b.toNat < 128))=true:=fun h=>List.all_eq_true.2 (fun b hb=>decide_eq_true (h b hb))
  rw [if_pos ⟨by rw [ofL_size];rw [List.length_append];omega,by decide,by rw [ofL_data];exact hall (asc_app (asc_itoa x) (asc_tl xs Rs)),by decide⟩,Option.bind_some];rw [show ((⟨#[32,44,59,41]⟩:ByteArray).data.toList)=stops from rfl,ofL_data]
  have hn:(if Lib.indexAny (Lib.itoa x++tl xs Rs) stops < 0 then ((ofL (a++(Lib.itoa x++tl xs Rs))).size:Int) else (a.length:Int)+Lib.indexAny (Lib.itoa x++tl xs Rs) stops)=((a++Lib.itoa x).length:Int):=by
    have hp:∀ b∈Lib.itoa x,stops.contains b=false:=fun b hb=>(itoa_plain x b hb).1
    rcases tl_head xs Rs with e|⟨c,l,e,hc⟩
    ·rw [e,List.append_nil,index_no hp,if_pos (by decide),ofL_size]
    ·rw [e,index_at c l hp hc,if_neg (by omega),List.length_append]
     push_cast
     rfl
  rw [hn]
  have hle:((a++Lib.itoa x).length:Int)≤((ofL (a++(Lib.itoa x++tl xs Rs))).size:Int):=by
    rw [ofL_size,hlen,List.length_append];omega
  rw [if_pos hle,Option.bind_some]
  congr 2
  rw [ofL_extract,Int.toNat_natCast,Int.toNat_natCast]
  congr 1
  rw [← List.append_assoc,List.take_left,List.drop_left]
theorem is_at (a b:List UInt8) (c:UInt8) (hl:(a++b).length≤4000000000):
    req_reader_is.f (ofL (a++b)) (a.length:Int) 0 ⟨#[c]⟩=some (if b.head?=some c then (true,ofL (a++b),(a.length:Int)+1,0) else (false,ofL (a++b),(a.length:Int),0)):=by
  have hlen:(a++b).length=a.length+b.length:=List.length_append
  have hx:(ofL (a++b)).extract ((a.length:Int)).toNat (ofL (a++b)).size=ofL b:=by
    rw [ofL_extract,Int.toNat_natCast,ofL_size,List.take_length,List.drop_left]
  unfold req_reader_is.f;rw [if_pos rfl,if_pos (by omega),if_pos (by rw [ofL_size];omega),hx,prefix_one,Option.bind_some];by_cases h:b.head?=some c
  ·rw [if_pos (decide_eq_true h),if_pos h]
   congr 3
   have:((⟨#[c]⟩:ByteArray).size:Int)=1:=rfl;rw [this,w64' (by omega) (by omega)]
  ·rw [if_neg (by simpa using h),if_neg h]
theorem val_at (k:Nat) (hk:2≤k) (a:List UInt8) (x:Int) (hx:isN x) (xs:List Int) (Rs:List (List Int)) (ha:asc a) (hl:(a++(Lib.itoa x++tl xs Rs)).length≤4000000000):
    req_reader_val.f k (ofL (a++(Lib.itoa x++tl xs Rs))) (a.length:Int) 0=some (1,x,⟨#[]⟩,(0,0),ofL (a++(Lib.itoa x++tl xs Rs)),((a++Lib.itoa x).length:Int),0):=by
  unfold req_reader_val.f;rw [if_pos rfl,word_at a x xs Rs ha hl,Option.bind_some,parse_num k hk x hx.1 hx.2,Option.bind_some];rfl
theorem rd_last {α : Type} (D:List (List S25)) (d:List S25):rd_L11 (D++[d]) ((D.length:Nat):Int)=d:=by
  unfold rd_L11;rw [Int.toNat_natCast,List.getD_eq_getElem?_getD,List.getElem?_append_right (Nat.le_refl _)];simp
theorem rows_at:∀ (n k:Nat) (xs:List Int) (Rs:List (List Int)) (x:Int) (a:List UInt8) (D:List (List S25)) (d:List S25),xs.length+Rs.flatten.length≤n→n+3≤k →
    (∀ r∈Rs,r≠[])→(∀ y∈x :: xs,isN y)→(∀ r∈Rs,∀ y∈r,isN y)→asc a→(a++(Lib.itoa x++tl xs Rs)).length≤4000000000→D.length+d.length+n≤1000000 →
    req_reader_rows.l0 k (D++[d]) (ofL (a++(Lib.itoa x++tl xs Rs))) (a.length:Int) 0 =
      some (D++[d++(x :: xs).map numV]++Rs.map (List.map numV),ofL (a++(Lib.itoa x++tl xs Rs)),((a++(Lib.itoa x++tl xs Rs)).length:Int),0)
  |n,k,xs,Rs,x,a,D,d,hn,hk,hne,hxs,hRs,ha,hl,hD=>by
   obtain ⟨k,rfl⟩:∃ q,k=q+1:=⟨k - 1,by omega⟩;have hx:isN x:=hxs x List.mem_cons_self
   have hlast:wrap64 (((D++[d]).length:Int) - 1)=(D.length:Int):=by
     rw [List.length_append,List.length_singleton];rw [w64' (by omega) (by omega)]
     push_cast
     omega
   rw [req_reader_rows.l0,if_pos rfl,hlast,if_pos (by omega),if_pos (by rw [List.length_append,List.length_singleton];omega)];rw [val_at k (by omega) a x hx xs Rs ha hl,Option.bind_some,rd_last (α:=Unit),if_pos (by omega),Option.bind_some];try dsimp only
   have hset:(D++[d]).set ((D.length:Int)).toNat (d++[(⟨1,x,⟨#[]⟩,(0,0)⟩:S25)])=D++[d++[numV x]]:=by
     rw [Int.toNat_natCast,List.set_append_right _ _ (Nat.le_refl _)];simp [numV]
   rw [hset];have hass:a++(Lib.itoa x++tl xs Rs)=(a++Lib.itoa x)++tl xs Rs:=(List.append_assoc _ _ _).symm;have hl2:((a++Lib.itoa x)++tl xs Rs).length≤4000000000:=by rw [← hass];exact hl
   have hc:=is_at (a++Lib.itoa x) (tl xs Rs) 44 hl2;rw [← hass] at hc
   cases xs with
   |cons y ys=>
    rw [if_pos (show (tl (y :: ys) Rs).head?=some 44 by rw [tl_cons];rfl)] at hc;rw [hc,Option.bind_some];try dsimp only
    rw [if_pos rfl];have e:a++(Lib.itoa x++tl (y :: ys) Rs)=(a++Lib.itoa x++[44])++(Lib.itoa y++tl ys Rs):=by rw [tl_cons];simp
    have hp:((a++Lib.itoa x).length:Int)+1=((a++Lib.itoa x++[44]).length:Int):=by simp;omega
    rw [hp,e];rw [List.length_cons] at hn;have hn1:n - 1 < n:=by omega
    rw [rows_at (n - 1) k ys Rs y (a++Lib.itoa x++[44]) D (d++[numV x]) (by omega) (by omega) hne (fun z hz=>hxs z (List.mem_cons_of_mem _ hz)) hRs (asc_app (asc_app ha (asc_itoa x)) (asc_cons (by decide) (fun c hc=>by cases hc))) (by rw [← e];exact hl) (by rw [List.length_append,List.length_singleton];omega)];simp
   |nil=>
    have h44:¬ (tl [] Rs).head?=some 44:=by
      cases Rs with
      |nil=>rw [tl_nil];simp
      |cons r Rs=>simp [tl,Lib.joinTail]
    rw [if_neg h44] at hc;rw [hc,Option.bind_some];try dsimp only
    rw [if_neg Bool.false_ne_true];have hc2:=is_at (a++Lib.itoa x) (tl [] Rs) 59 hl2;rw [← hass] at hc2
    cases Rs with
    |nil=>
     rw [if_neg (show ¬ (tl [] []).head?=some 59 by rw [tl_nil];simp)] at hc2;rw [hc2,Option.bind_some];try dsimp only
     rw [if_neg Bool.false_ne_true];simp [tl_nil]
    |cons r Rs=>
     obtain ⟨y,ys,rfl⟩:=List.exists_cons_of_ne_nil (hne r List.mem_cons_self);rw [if_pos (show (tl [] ((y :: ys) :: Rs)).head?=some 59 by rw [tl_row];rfl)] at hc2;rw [hc2,Option.bind_some];try dsimp only
     rw [if_pos rfl,if_pos (by rw [List.length_append,List.length_singleton];omega)];have e:a++(Lib.itoa x++tl [] ((y :: ys) :: Rs))=(a++Lib.itoa x++[59])++(Lib.itoa y++tl ys Rs):=by rw [tl_row];simp
     have hp:((a++Lib.itoa x).length:Int)+1=((a++Lib.itoa x++[59]).length:Int):=by simp;omega
     rw [hp,e];simp only [List.flatten_cons,List.length_append,List.length_cons,List.length_nil] at hn;have hn1:n - 1 < n:=by omega
     rw [rows_at (n - 1) k ys Rs y (a++Lib.itoa x++[59]) (D++[d++[numV x]]) [] (by omega) (by omega) (fun r hr=>hne r (List.mem_cons_of_mem _ hr)) (hRs _ List.mem_cons_self) (fun r hr=>hRs r (List.mem_cons_of_mem _ hr)) (asc_app (asc_app ha (asc_itoa x)) (asc_cons (by decide) (fun c hc=>by cases hc))) (by rw [← e];exact hl) (by rw [List.length_append,List.length_singleton];simp only [List.length_nil];omega)];simp
termination_by n=>n
decreasing_by all_goals assumption
end Go.Proofs.YtcpjlbdjnaaaiaaGreatDoor.Num
/- An append read. -/
set_option linter.unusedSimpArgs false
set_option linter.unusedVariables false
namespace Go.Proofs.YtcpjlbdjnaaaiaaGreatDoor.Num
open Go Go.RowKit Go.Proofs.YtcpjlbdjnaaaiaaGreatDoor.PAll Go.Proofs.YtcpjlbdjnaaaiaaGreatDoor.Help Go.Proofs.YtcpjlbdjnaaaiaaGreatDoorW.PrintWords Go.Proofs.YtcpjlbdjnaaaiaaGreatDoorW.PrintLast Go.Proofs.YtcpjlbdjnaaaiaaGreatDoorW.PrintMore
theorem at_more {α : Type} {g:Nat→Option α} {r : α} (hm:∀ k,LeO (g k) (g (k+1))) {k n:Nat} (h:n≤k) (hn:g n=some r):g k=some r:=by
  induction h with
  |refl=>exact hn
  |step _ ih=>exact hm _ _ ih
def pre:List UInt8:=[97,112,112,101,110,100,32]
theorem asc_pre:asc pre:=by
  intro b hb;have h:∀ c∈pre,c.toNat < 128:=by decide
  exact h b hb
def wordsL:List ByteArray:=[(⟨#[111,112,101,110]⟩:ByteArray),(⟨#[102,101,116,99,104]⟩:ByteArray),(⟨#[115,104,117,116]⟩:ByteArray),(⟨#[97,112,112,101,110,100]⟩:ByteArray),(⟨#[99,111,117,110,116]⟩:ByteArray)]
set_option maxRecDepth 10000 in
theorem index_append:slices_Index_string_string.f 10 wordsL (⟨#[97,112,112,101,110,100]⟩:ByteArray)=some 3:=by kernel_rfl
theorem cut_pre (t:List UInt8):Lib.cut (pre++t) [32]=([97,112,112,101,110,100],t,true):=by
  have h:Lib.index (pre++t) [32]=6:=by
    simp [pre,Lib.index,List.isPrefixOf]
  unfold Lib.cut;rw [h,if_pos (by decide)];rfl
theorem parse_rows (k:Nat) (hk:100≤k) (x:Int) (xs:List Int) (Rs:List (List Int)) (hn:xs.length+Rs.flatten.length≤80) (hne:∀ r∈Rs,r≠[]) (hxs:∀ y∈x :: xs,isN y) (hRs:∀ r∈Rs,∀ y∈r,isN y)
    (hl:(pre++(Lib.itoa x++tl xs Rs)).length≤1000000):
    req_Parse.f k (ofL (pre++(Lib.itoa x++tl xs Rs)))=some (4,0,[],0,0,0,0,⟨#[]⟩,(0,0),(0,0),(0,0),[],(x :: xs).map numV :: Rs.map (List.map numV),0):=by
  unfold req_Parse.f strings_Cut.f;rw [if_pos (by rw [ofL_size];omega),Option.bind_some,ofL_data,show ((⟨#[32]⟩:ByteArray).data.toList)=[32] from rfl,cut_pre];try dsimp only
  unfold req_words.f;rw [Option.bind_some];have hi:slices_Index_string_string.f k wordsL (⟨#[97,112,112,101,110,100]⟩:ByteArray)=some 3:=at_more (fun j=>slices_Index_string_string.mono wordsL _ j) (by omega) index_append;have hi2:slices_Index_string_string.f k [(⟨#[111,112,101,110]⟩:ByteArray),(⟨#[102,101,116,99,104]⟩:ByteArray),(⟨#[115,104,117,116]⟩:ByteArray),(⟨#[97,112,112,101,110,100]⟩:ByteArray),(⟨#[99,111,117,110,116]⟩:ByteArray)] (⟨[97,112,112,101,110,100].toArray⟩:ByteArray)=some 3:=hi;rw [hi2,Option.bind_some];have e4:wrap64 ((3:Int)+1)=4:=by unfold wrap64;omega
  rw [e4,if_neg (by decide)]
  have e7:mn (wrap64 (((⟨[97,112,112,101,110,100].toArray⟩:ByteArray).size:Int)+1)) ((ofL (pre++(Lib.itoa x++tl xs Rs))).size:Int)=(pre.length:Int):=by
    have h1:wrap64 (((⟨[97,112,112,101,110,100].toArray⟩:ByteArray).size:Int)+1)=7:=by
      show wrap64 ((6:Int)+1)=7
      unfold wrap64;omega
    rw [h1,ofL_size,List.length_append];unfold mn;rw [if_neg (by have:pre.length=7:=rfl;omega)];rfl
  rw [e7];obtain ⟨k,rfl⟩:∃ q,k=q+2:=⟨k - 2,by omega⟩;rw [show (true != ((4:Int) != 5))=false from rfl,req_Parse.j0,if_neg (by decide),if_neg (by decide),if_pos rfl];have hr:=rows_at 80 (k+1) xs Rs x pre [] [] hn (by omega) hne hxs hRs asc_pre (by omega) (by simp);unfold req_reader_rows.f;rw [List.nil_append] at hr;rw [hr,Option.bind_some];try dsimp only
  rw [req_Parse.j1];unfold req_reader_end.f;rw [if_neg (by rw [ofL_size];omega),Option.bind_some];try dsimp only
  rw [if_pos rfl];simp
end Go.Proofs.YtcpjlbdjnaaaiaaGreatDoor.Num
/- An append told. -/
set_option linter.unusedSimpArgs false
set_option linter.unusedVariables false
namespace Go.Proofs.YtcpjlbdjnaaaiaaGreatDoor.Num
open Go Go.RowKit Go.Proofs.YtcpjlbdjnaaaiaaGreatDoor.PAll Go.Proofs.YtcpjlbdjnaaaiaaGreatDoor.Help Go.Proofs.YtcpjlbdjnaaaiaaGreatDoorW.PrintWords Go.Proofs.YtcpjlbdjnaaaiaaGreatDoorW.PrintLast Go.Proofs.YtcpjlbdjnaaaiaaGreatDoorW.PrintMore
theorem rdR (R:List (List Int)) {i:Nat} {r:List Int} (h:R[i]?=some r):rd_L11 (R.map (List.map numV)) (i:Int)=r.map numV:=by
  unfold rd_L11;rw [Int.toNat_natCast,List.getD_eq_getElem?_getD,List.getElem?_map,h];rfl
theorem rdV (r:List Int) {i:Nat} {x:Int} (h:r[i]?=some x):rd_T25 (r.map numV) (i:Int)=numV x:=by
  unfold rd_T25;rw [Int.toNat_natCast,List.getD_eq_getElem?_getD,List.getElem?_map,h];rfl
set_option maxRecDepth 10000 in
theorem none_zero:req_none.f 10 0 0 0 0 (⟨#[]⟩:ByteArray) ((0,0):Nat×Nat) ((0,0):Nat×Nat) ((0,0):Nat×Nat) ([]:List S30)=some true:=by kernel_rfl
theorem good_zero:point_Good.f ((0,0):Nat×Nat)=some true:=by kernel_rfl
theorem cEq_zero:cEq 0 0 0 0=true:=by decide +kernel
theorem check_num (k:Nat) (hk:5≤k) (x:Int):val_Check.f k 1 x (⟨#[]⟩:ByteArray) ((0,0):Nat×Nat)=some 0:=by
  obtain ⟨k,rfl⟩:∃ q,k=q+2:=⟨k - 2,by omega⟩;unfold val_Check.f;rw [if_neg (by decide),show decide ((1:Int) > 3)=false from rfl,val_Check.j0,if_neg (by decide)];unfold val_own.f;rw [if_pos rfl,Option.bind_some];try dsimp only
  rw [if_neg (by simp [cEq_zero]),good_zero,Option.bind_some];rw [show (!true)=false from rfl,val_Check.j1,if_neg (by decide),if_neg (by decide)]
/-! ### no row is empty -/
theorem none_empty:∀ (d k i:Nat) (R:List (List Int)),i+d=R.length→d < k→(∀ r∈R,r≠[])→R.length≤1000000→val_Val_73.l0 k (R.map (List.map numV)) (R.length:Int) (i:Int)=some (-1)
  |d,k,i,R,hd,hk,hne,hl=>by
   obtain ⟨k,rfl⟩:∃ q,k=q+1:=⟨k - 1,by omega⟩;rw [val_Val_73.l0]
   cases d with
   |zero=>rw [if_neg (by omega)]
   |succ d=>
    have hi:i < R.length:=by omega
    have hg:=List.getElem?_eq_getElem hi;rw [if_pos (by omega),if_pos (by omega),if_pos (by rw [List.length_map];omega),rdR R hg];unfold req_check_1.f;rw [Option.bind_some];have hne':R[i]≠[]:=hne _ (List.getElem_mem hi)
    have h0:(((R[i].map numV).length:Int) == 0)=false:=by
      rw [List.length_map];have:0 < R[i].length:=List.length_pos_iff.2 hne';exact beq_eq_false_iff_ne.2 (by omega)
    rw [h0,if_neg (by decide),w64' (by omega) (by omega)];have:=none_empty d k (i+1) R (by omega) (by omega) hne hl
    push_cast at this
    exact this
/-! ### each value may be -/
theorem check_row:∀ (d k i:Nat) (X:List (List S25)) (n j:Int) (r:List Int),i+d=r.length→r.length≤1000000→5≤k →
    req_check.l1 (k+d+1) X n j (r.map numV) (r.length:Int) (i:Int)=req_check.l0 k X n (wrap64 (j+1))
  |d,k,i,X,n,j,r,hd,hl,hk=>by
   rw [req_check.l1]
   cases d with
   |zero=>rw [if_neg (by omega)];rfl
   |succ d=>
    have hi:i < r.length:=by omega
    rw [if_pos (by omega),if_pos (by omega),if_pos (by rw [List.length_map];omega),rdV r (List.getElem?_eq_getElem hi)];rw [show (numV r[i]).f0=1 from rfl,show (numV r[i]).f1=r[i] from rfl,show (numV r[i]).f2=⟨#[]⟩ from rfl,show (numV r[i]).f3=(0,0) from rfl];rw [check_num _ (by omega),Option.bind_some,if_pos rfl,w64' (by omega) (by omega)];have:=check_row d k (i+1) X n j r (by omega) hl hk
    push_cast at this
    rw [show k+(d+1)=k+d+1 from by omega];exact this
theorem check_rows:∀ (d k i:Nat) (R:List (List Int)),i+d=R.length→(R.drop i).flatten.length+2 * d+6≤k→R.length≤1000000→R.flatten.length≤1000000 →
    req_check.l0 k (R.map (List.map numV)) (R.length:Int) (i:Int)=some 0
  |d,k,i,R,hd,hk,hl,hf=>by
   obtain ⟨k,rfl⟩:∃ q,k=q+1:=⟨k - 1,by omega⟩;rw [req_check.l0]
   cases d with
   |zero=>rw [if_neg (by omega)]
   |succ d=>
    have hi:i < R.length:=by omega
    have hg:=List.getElem?_eq_getElem hi;have hdrop:R.drop i=R[i] :: R.drop (i+1):=List.drop_eq_getElem_cons hi;rw [hdrop,List.flatten_cons,List.length_append] at hk;rw [if_pos (by omega),if_pos (by omega),if_pos (by rw [List.length_map];omega),rdR R hg]
    have hrl:R[i].length≤1000000:=by
      have:=List.Sublist.length_le (List.sublist_flatten_of_mem (List.getElem_mem hi));omega
    obtain ⟨q,hq⟩:∃ q,k=q+R[i].length+1:=⟨k - R[i].length - 1,by omega⟩;rw [List.length_map,hq];have h1:=check_row R[i].length q 0 (R.map (List.map numV)) (R.length:Int) (i:Int) R[i] (by omega) hrl (by omega);rw [show ((0:Nat):Int)=0 from rfl] at h1;rw [h1,w64' (by omega) (by omega)];have:=check_rows d q (i+1) R (by omega) (by omega) hl hf
    push_cast at this
    exact this
theorem check_append (k:Nat) (hk:400≤k) (R:List (List Int)) (hR:R≠[]) (hne:∀ r∈R,r≠[]) (hf:R.flatten.length≤80) (hl:R.length≤80):
    req_check.f k 4 0 [] 0 0 0 0 (⟨#[]⟩:ByteArray) ((0,0):Nat×Nat) ((0,0):Nat×Nat) ((0,0):Nat×Nat) [] (R.map (List.map numV))=some 0:=by
  have h0:req_none.f k 0 0 0 0 (⟨#[]⟩:ByteArray) ((0,0):Nat×Nat) ((0,0):Nat×Nat) ((0,0):Nat×Nat) ([]:List S30)=some true:=at_more (fun j=>req_none.mono _ _ _ _ _ _ _ _ _ j) (by omega) none_zero;unfold req_check.f;rw [if_neg (by decide),if_neg (by decide)];unfold req_alone.f;rw [if_neg (by decide),if_neg (by decide),if_pos rfl,if_neg (by decide),if_pos (by rfl),h0,Option.bind_some,if_pos rfl,if_pos rfl,Option.bind_some,if_pos rfl];obtain ⟨k,rfl⟩:∃ q,k=q+2:=⟨k - 2,by omega⟩;rw [show decide ((0:Int) < 0)=false from rfl,req_check.j0,if_neg (by decide),if_neg (by decide),if_pos rfl]
  have hlen:(((R.map (List.map numV)).length:Int) == 0)=false:=by
    rw [List.length_map];have:0 < R.length:=List.length_pos_iff.2 hR;exact beq_eq_false_iff_ne.2 (by omega)
  rw [hlen,req_check.j1,if_neg (by decide)];unfold val_Val_44.f val_Val_73.f;have h1:=none_empty R.length k 0 R (by omega) (by omega) hne (by omega);rw [show ((0:Nat):Int)=0 from rfl] at h1;rw [List.length_map,h1,Option.bind_some,Option.bind_some,show decide ((-1:Int) ≥ 0)=false from rfl,if_neg (by decide)];unfold slices_ContainsFunc_string_string.f slices_IndexFunc_string_string.f;obtain ⟨k,rfl⟩:∃ q,k=q+1:=⟨k - 1,by omega⟩;rw [slices_IndexFunc_string_string.l0,if_neg (by decide),Option.bind_some,show decide ((-1:Int) ≥ 0)=false from rfl,Option.bind_some,if_neg (by decide),if_neg (by decide)];have h2:=check_rows R.length (k+1) 0 R (by omega) (by rw [List.drop_zero];omega) (by omega) (by omega);rw [show ((0:Nat):Int)=0 from rfl] at h2;exact h2
/-! ### the rows in words -/
theorem join_of (l:List (List UInt8)) (sep:UInt8) (h:l.length≤1000000) (h2:(Lib.join l [sep]).length≤1000000):strings_Join.f (l.map ofL) ⟨#[sep]⟩=some (ofL (Lib.join l [sep])):=by
  unfold strings_Join.f
  have e:(l.map ofL).map (·.data.toList)=l:=by
    rw [List.map_map];exact (List.map_congr_left (fun x _=>ofL_data x)).trans (List.map_id l)
  rw [e,show ((⟨#[sep]⟩:ByteArray).data.toList)=[sep] from rfl,if_pos ⟨by rw [List.length_map];omega,by omega⟩]
theorem text_row:∀ (d k i:Nat) (X:List (List S25)) (n j:Int) (r:List Int) (x5:ByteArray) (x6:List ByteArray),i+d=r.length→r.length≤1000000→(∀ x∈r,isN x)→(rowT r).length≤1000000→x6.length≤1000000 →
    req_Text.l1 (k+d+1) x5 x6 (((r.take i).map Lib.itoa).map ofL) X n j (r.map numV) (r.length:Int) (i:Int)=req_Text.l0 k x5 (x6++[ofL (rowT r)]) X n (wrap64 (j+1))
  |d,k,i,X,n,j,r,x5,x6,hd,hl,hn,hT,h6=>by
   rw [req_Text.l1]
   cases d with
   |zero=>
    rw [if_neg (by omega),List.take_of_length_le (by omega),join_of _ 44 (by rw [List.length_map];omega) hT,Option.bind_some,if_pos (by omega)];rfl
   |succ d=>
    have hi:i < r.length:=by omega
    have hx:=hn _ (List.getElem_mem hi);rw [if_pos (by omega),if_pos (by omega),if_pos (by rw [List.length_map];omega),rdV r (List.getElem?_eq_getElem hi)];rw [show (numV r[i]).f0=1 from rfl,show (numV r[i]).f1=r[i] from rfl,show (numV r[i]).f2=⟨#[]⟩ from rfl,show (numV r[i]).f3=(0,0) from rfl];rw [text_num _ r[i] hx.1 hx.2,Option.bind_some,if_pos (by rw [List.length_map,List.length_map,List.length_take];omega),w64' (by omega) (by omega)]
    have e:((r.take i).map Lib.itoa).map ofL++[ofL (Lib.itoa r[i])]=((r.take (i+1)).map Lib.itoa).map ofL:=by
      rw [List.take_add_one,List.getElem?_eq_getElem hi,List.map_append,List.map_append];rfl
    have:=text_row d k (i+1) X n j r x5 x6 (by omega) hl hn hT h6
    push_cast at this
    rw [show k+(d+1)=k+d+1 from by omega,e];exact this
theorem text_all:∀ (d k i:Nat) (R:List (List Int)) (x5:ByteArray),i+d=R.length→(R.drop i).flatten.length+2 * d+6≤k→R.length≤1000000→R.flatten.length≤1000000→(∀ r∈R,∀ x∈r,isN x)→(∀ r∈R,(rowT r).length≤1000000)→(rowsT R).length≤1000000→x5.size≤1000000 →
    req_Text.l0 k x5 (((R.take i).map rowT).map ofL) (R.map (List.map numV)) (R.length:Int) (i:Int)=some (x5++((⟨#[32]⟩:ByteArray)++ofL (rowsT R)),0)
  |d,k,i,R,x5,hd,hk,hl,hf,hn,hT,hTT,h5=>by
   obtain ⟨k,rfl⟩:∃ q,k=q+1:=⟨k - 1,by omega⟩;rw [req_Text.l0]
   cases d with
   |zero=>
    have hs:(ofL (rowsT R)).size=(rowsT R).length:=ofL_size _;rw [if_neg (by omega),List.take_of_length_le (by omega),join_of _ 59 (by rw [List.length_map];omega) hTT,Option.bind_some];have e:ofL (Lib.join (R.map rowT) [59])=ofL (rowsT R):=rfl;rw [e,if_pos (by omega),if_pos (by omega)]
   |succ d=>
    have hi:i < R.length:=by omega
    have hg:=List.getElem?_eq_getElem hi;have hm:=List.getElem_mem hi;have hdrop:R.drop i=R[i] :: R.drop (i+1):=List.drop_eq_getElem_cons hi;rw [hdrop,List.flatten_cons,List.length_append] at hk;rw [if_pos (by omega),if_pos (by omega),if_pos (by rw [List.length_map];omega),rdR R hg]
    have hrl:R[i].length≤1000000:=by
      have:=List.Sublist.length_le (List.sublist_flatten_of_mem hm);omega
    obtain ⟨q,hq⟩:∃ q,k=q+R[i].length+1:=⟨k - R[i].length - 1,by omega⟩;rw [List.length_map,hq];have h1:=text_row R[i].length q 0 (R.map (List.map numV)) (R.length:Int) (i:Int) R[i] x5 (((R.take i).map rowT).map ofL) (by omega) hrl (hn _ hm) (hT _ hm) (by rw [List.length_map,List.length_map,List.length_take];omega);rw [show ((0:Nat):Int)=0 from rfl,List.take_zero] at h1;have h1':req_Text.l1 (q+R[i].length+1) x5 (((R.take i).map rowT).map ofL) [] (R.map (List.map numV)) (R.length:Int) (i:Int) (R[i].map numV) (R[i].length:Int) 0=_:=h1;rw [h1',w64' (by omega) (by omega)]
    have e:((R.take i).map rowT).map ofL++[ofL (rowT R[i])]=((R.take (i+1)).map rowT).map ofL:=by
      rw [List.take_add_one,hg,List.map_append,List.map_append];rfl
    have:=text_all d q (i+1) R x5 (by omega) (by omega) hl hf hn hT hTT h5
    push_cast at this
    rw [e];exact this
theorem text_append (k:Nat) (hk:400≤k) (R:List (List Int)) (hR:R≠[]) (hne:∀ r∈R,r≠[]) (hf:R.flatten.length≤80) (hl:R.length≤80) (hn:∀ r∈R,∀ x∈r,isN x) (hT:∀ r∈R,(rowT r).length≤1000000) (hTT:(rowsT R).length≤1000000):
    req_Text.f k 4 0 [] 0 0 0 0 (⟨#[]⟩:ByteArray) ((0,0):Nat×Nat) ((0,0):Nat×Nat) ((0,0):Nat×Nat) [] (R.map (List.map numV))=some (ofL (pre++rowsT R),0):=by
  unfold req_Text.f;rw [check_append k hk R hR hne hf hl,Option.bind_some,if_pos rfl];unfold req_words.f;rw [Option.bind_some];have e3:wrap64 ((4:Int) - 1)=3:=by unfold wrap64;omega
  rw [e3,if_pos (by decide),if_pos (by decide),if_neg (by decide),if_neg (by decide)];obtain ⟨k,rfl⟩:∃ q,k=q+1:=⟨k - 1,by omega⟩;rw [show ((4:Int) == 3)=false from rfl,req_Text.j0,if_neg (by decide),if_pos rfl];have h:=text_all R.length k 0 R (⟨#[97,112,112,101,110,100]⟩:ByteArray) (by omega) (by rw [List.drop_zero];omega) (by omega) (by omega) hn hT hTT (by decide);rw [show ((0:Nat):Int)=0 from rfl,List.take_zero] at h;rw [List.length_map];have h':req_Text.l0 k (rdOf ByteArray.empty [(⟨#[111,112,101,110]⟩:ByteArray),(⟨#[102,101,116,99,104]⟩:ByteArray),(⟨#[115,104,117,116]⟩:ByteArray),(⟨#[97,112,112,101,110,100]⟩:ByteArray),(⟨#[99,111,117,110,116]⟩:ByteArray)] 3) [] (R.map (List.map numV)) (R.length:Int) 0=_:=h;rw [h']
  congr 2
end Go.Proofs.YtcpjlbdjnaaaiaaGreatDoor.Num
/- Rows as the document's, and that they are the same. -/
set_option linter.unusedSimpArgs false
set_option linter.unusedVariables false
namespace Go.Proofs.YtcpjlbdjnaaaiaaGreatDoor.Num
open Go Go.RowKit Go.Proofs.YtcpjlbdjnaaaiaaGreatDoor.PAll Go.Proofs.YtcpjlbdjnaaaiaaGreatDoor.Help Go.Proofs.YtcpjlbdjnaaaiaaGreatDoorW.PrintWords Go.Proofs.YtcpjlbdjnaaaiaaGreatDoorW.PrintLast Go.Proofs.YtcpjlbdjnaaaiaaGreatDoorW.PrintMore
def ofV (x:Int):S117:=⟨1,x,⟨#[]⟩,(0,0)⟩
theorem of_all:∀ (d k i:Nat) (r:List Int),i+d=r.length→d < k→r.length≤1000000→norialaw3_OfAll.l0 k (r.map numV) ((r.take i).map ofV) (i:Int)=some (r.map ofV)
  |d,k,i,r,hd,hk,hl=>by
   obtain ⟨k,rfl⟩:∃ q,k=q+1:=⟨k - 1,by omega⟩;rw [norialaw3_OfAll.l0]
   cases d with
   |zero=>rw [if_neg (by rw [List.length_map];omega),List.take_of_length_le (by omega)]
   |succ d=>
    have hi:i < r.length:=by omega
    rw [if_pos (by rw [List.length_map];omega),if_pos (by omega),rdV r (List.getElem?_eq_getElem hi)];unfold norialaw3_Of.f;rw [Option.bind_some,if_pos (by rw [List.length_map,List.length_take];omega),w64' (by omega) (by omega)];have:=of_all d k (i+1) r (by omega) (by omega) hl
    have e:(r.take (i+1)).map ofV=(r.take i).map ofV++[ofV r[i]]:=by
      rw [List.take_add_one,List.getElem?_eq_getElem hi,List.map_append];rfl
    rw [e] at this
    push_cast at this
    exact this
theorem of_rows:∀ (d k i:Nat) (R:List (List Int)),i+d=R.length→d+100 < k→R.length≤1000000→(∀ r∈R,r.length≤80)→norialaw3_OfRows.l0 k (R.map (List.map numV)) ((R.take i).map (List.map ofV)) (i:Int)=some (R.map (List.map ofV))
  |d,k,i,R,hd,hk,hl,hr=>by
   obtain ⟨k,rfl⟩:∃ q,k=q+1:=⟨k - 1,by omega⟩;rw [norialaw3_OfRows.l0]
   cases d with
   |zero=>rw [if_neg (by rw [List.length_map];omega),List.take_of_length_le (by omega)]
   |succ d=>
    have hi:i < R.length:=by omega
    have hg:=List.getElem?_eq_getElem hi;have h1:=hr _ (List.getElem_mem hi);rw [if_pos (by rw [List.length_map];omega),if_pos (by omega),rdR R hg];unfold norialaw3_OfAll.f;have h2:=of_all R[i].length k 0 R[i] (by omega) (by omega) (by omega);rw [List.take_zero,List.map_nil,show ((0:Nat):Int)=0 from rfl] at h2;rw [h2,Option.bind_some,if_pos (by rw [List.length_map,List.length_take];omega),w64' (by omega) (by omega)];have:=of_rows d k (i+1) R (by omega) (by omega) hl hr
    have e:(R.take (i+1)).map (List.map ofV)=(R.take i).map (List.map ofV)++[R[i].map ofV]:=by
      rw [List.take_add_one,hg,List.map_append];rfl
    rw [e] at this
    push_cast at this
    exact this
theorem rdQ (R:List (List Int)) {i:Nat} {r:List Int} (h:R[i]?=some r):rd_L15 (R.map (List.map ofV)) (i:Int)=r.map ofV:=by
  unfold rd_L15;rw [Int.toNat_natCast,List.getD_eq_getElem?_getD,List.getElem?_map,h];rfl
theorem rdW (r:List Int) {i:Nat} {x:Int} (h:r[i]?=some x):rd_T117 (r.map ofV) (i:Int)=ofV x:=by
  unfold rd_T117;rw [Int.toNat_natCast,List.getD_eq_getElem?_getD,List.getElem?_map,h];rfl
theorem same_row:∀ (d k i:Nat) (r:List Int),i+d=r.length→d < k→r.length≤1000000→norialaw3_Same.l0 k (r.map numV) (r.map ofV) (i:Int)=some true
  |d,k,i,r,hd,hk,hl=>by
   obtain ⟨k,rfl⟩:∃ q,k=q+1:=⟨k - 1,by omega⟩;rw [norialaw3_Same.l0]
   cases d with
   |zero=>rw [if_neg (by rw [List.length_map];omega)]
   |succ d=>
    have hi:i < r.length:=by omega
    rw [if_pos (by rw [List.length_map];omega),if_pos (by omega),rdV r (List.getElem?_eq_getElem hi),rdW r (List.getElem?_eq_getElem hi)];unfold norialaw3_Of.f;rw [Option.bind_some,if_pos (by rw [List.length_map];omega),if_neg (by simp [numV,ofV,cEq_zero]),w64' (by omega) (by omega)];have:=same_row d k (i+1) r (by omega) (by omega) hl
    push_cast at this
    exact this
theorem same_rows:∀ (d k i:Nat) (R:List (List Int)),i+d=R.length→d+100 < k→R.length≤1000000→(∀ r∈R,r.length≤80)→norialaw3_SameRows.l0 k (R.map (List.map numV)) (R.map (List.map ofV)) (i:Int)=some true
  |d,k,i,R,hd,hk,hl,hr=>by
   obtain ⟨k,rfl⟩:∃ q,k=q+1:=⟨k - 1,by omega⟩;rw [norialaw3_SameRows.l0]
   cases d with
   |zero=>rw [if_neg (by rw [List.length_map];omega)]
   |succ d=>
    have hi:i < R.length:=by omega
    have hg:=List.getElem?_eq_getElem hi;have h1:=hr _ (List.getElem_mem hi);rw [if_pos (by rw [List.length_map];omega),if_pos (by omega),if_pos (by rw [List.length_map];omega),rdR R hg,rdQ R hg];unfold norialaw3_Same.f;have h2:=same_row R[i].length k 0 R[i] (by omega) (by omega) (by omega);rw [show ((0:Nat):Int)=0 from rfl] at h2;rw [if_pos (by rw [List.length_map,List.length_map]),h2,Option.bind_some,if_pos rfl,w64' (by omega) (by omega)];have:=same_rows d k (i+1) R (by omega) (by omega) hl hr
    push_cast at this
    exact this
/-! ### lengths -/
theorem tail_len:∀ (xs:List Int),(∀ x∈xs,isN x)→(Lib.joinTail [44] (xs.map Lib.itoa)).length≤22 * xs.length
  | [],_=>by simp [Lib.joinTail]
  |x :: xs,h=>by
   have hx:=h x List.mem_cons_self;have h1:=Lib.itoa_length_le x hx.1 hx.2;have h2:=tail_len xs (fun y hy=>h y (List.mem_cons_of_mem _ hy));have e:Lib.joinTail [44] ((x :: xs).map Lib.itoa)=44 :: (Lib.itoa x++Lib.joinTail [44] (xs.map Lib.itoa)):=by simp [Lib.joinTail]
   rw [e,List.length_cons,List.length_append,List.length_cons];omega
theorem row_len (r:List Int) (h:∀ x∈r,isN x):(rowT r).length≤22 * r.length:=by
  cases r with
  |nil=>simp [rowT,Lib.join]
  |cons x xs=>
   have hx:=h x List.mem_cons_self;have h1:=Lib.itoa_length_le x hx.1 hx.2;have h2:=tail_len xs (fun y hy=>h y (List.mem_cons_of_mem _ hy));rw [rowT_cons,List.length_append,List.length_cons];omega
theorem rtail_len:∀ (R:List (List Int)),(∀ r∈R,r≠[])→(∀ r∈R,∀ x∈r,isN x)→(Lib.joinTail [59] (R.map rowT)).length≤23 * R.flatten.length∧R.length≤R.flatten.length
  | [],_,_=>by simp [Lib.joinTail]
  |r :: R,h0,h=>by
   have h1:=row_len r (h r List.mem_cons_self);have h2:=rtail_len R (fun q hq=>h0 q (List.mem_cons_of_mem _ hq)) (fun q hq=>h q (List.mem_cons_of_mem _ hq));have h3:0 < r.length:=List.length_pos_iff.2 (h0 r List.mem_cons_self);have e:Lib.joinTail [59] ((r :: R).map rowT)=59 :: (rowT r++Lib.joinTail [59] (R.map rowT)):=by simp [Lib.joinTail]
   rw [e,List.length_cons,List.length_append,List.flatten_cons,List.length_append,List.length_cons];omega
theorem rows_len (R:List (List Int)) (h0:∀ r∈R,r≠[]) (h:∀ r∈R,∀ x∈r,isN x):(rowsT R).length≤23 * R.flatten.length+22 * R.flatten.length∧R.length≤R.flatten.length:=by
  refine ⟨?_,(rtail_len R h0 h).2⟩
  cases R with
  |nil=>simp [rowsT,Lib.join]
  |cons r R=>
   have h1:=row_len r (h r List.mem_cons_self);have h2:=(rtail_len R (fun q hq=>h0 q (List.mem_cons_of_mem _ hq)) (fun q hq=>h q (List.mem_cons_of_mem _ hq))).1;unfold rowsT;rw [List.map_cons,Lib.join_cons,List.length_append,List.flatten_cons,List.length_append];omega
end Go.Proofs.YtcpjlbdjnaaaiaaGreatDoor.Num
/- The document's numerals: noriaref11.Decimal. -/
set_option linter.unusedSimpArgs false
set_option linter.unusedVariables false
namespace Go.Proofs.YtcpjlbdjnaaaiaaGreatDoor.Num
open Go Go.RowKit Go.Proofs.YtcpjlbdjnaaaiaaGreatDoor.PAll Go.Proofs.YtcpjlbdjnaaaiaaGreatDoor.Help Go.Proofs.YtcpjlbdjnaaaiaaGreatDoorW.PrintWords Go.Proofs.YtcpjlbdjnaaaiaaGreatDoorW.PrintLast Go.Proofs.YtcpjlbdjnaaaiaaGreatDoorW.PrintMore
theorem w64 {x:Int} (h0 : -9223372036854775808≤x) (h1:x≤9223372036854775807):wrap64 x=x:=by unfold wrap64;omega
theorem digit_one {d:Nat} (hd:d < 10):strOfNums [(wrap64 (48+(d:Int))) % 256]=ofL [UInt8.ofNat (48+d)]:=by
  have h:∀ j:Fin 10,strOfNums [(wrap64 (48+(j.val:Int))) % 256]=ofL [UInt8.ofNat (48+j.val)]:=by decide +kernel
  exact h ⟨d,hd⟩
theorem ofL_app (a b:List UInt8):ofL a++ofL b=ofL (a++b):=by
  rw [← toList_ofL (ofL a++ofL b)]
  congr 1
theorem dd_ge {n:Nat} (h:¬ n < 10):Lib.decDigits n=Lib.decDigits (n / 10)++[UInt8.ofNat (48+n % 10)]:=by
  conv=>lhs;rw [Lib.decDigits,dif_neg h]
theorem dd_lt {n:Nat} (h:n < 10):Lib.decDigits n=[UInt8.ofNat (48+n)]:=Lib.decDigits_one h
theorem dec_l0:∀ (k n:Nat) (s:List UInt8),n < 10 ^ (k+1)→n≤9223372036854775807→s.length+k≤100→noriaref11_Decimal.l0 (k+1) (n:Int) (ofL s)=some (ofL ((if n < 10 then [] else Lib.decDigits (n / 10))++s))
  |k,n,s,hk,hn,hs=>by
   rw [noriaref11_Decimal.l0];by_cases h:n < 10
   ·rw [if_neg (by omega),if_pos h]
    rfl
   ·rw [if_pos (by omega),if_neg h]
    obtain ⟨k,rfl⟩:∃ m,k=m+1:=by
      cases k with
      |zero=>exact absurd hk (by simpa using h)
      |succ m=>exact ⟨m,rfl⟩
    rw [Option.bind_some];have e1:Int.tdiv (n:Int) 10=((n / 10:Nat):Int):=rfl;have ew:wrap64 ((n / 10:Nat):Int)=((n / 10:Nat):Int):=w64 (by omega) (by omega);rw [e1,ew];have e2:Int.tmod ((n / 10:Nat):Int) 10=((n / 10 % 10:Nat):Int):=rfl;rw [e2,digit_one (Nat.mod_lt _ (by decide)),ofL_app];rw [if_pos (by rw [ofL_size,ofL_size];simp only [List.length_singleton];omega)];rw [dec_l0 k (n / 10) _ (by rw [Nat.pow_succ] at hk;omega) (by omega) (by simp only [List.length_append,List.length_singleton];omega)]
    congr 1
    congr 1
    by_cases h2:n / 10 < 10
    ·rw [if_pos h2,dd_lt h2,Nat.mod_eq_of_lt h2]
     rfl
    ·rw [if_neg h2,dd_ge h2]
     simp
theorem dec_nat (k n:Nat) (hk:30≤k) (hn:n≤9223372036854775807):noriaref11_Decimal.f (k+1) (n:Int)=some (ofL (Lib.decDigits n)):=by
  rw [noriaref11_Decimal.f,if_neg (by omega)];have e2:Int.tmod (n:Int) 10=((n % 10:Nat):Int):=rfl;rw [e2,digit_one (Nat.mod_lt _ (by decide))]
  have hm:∀ (j:Nat) (x:Int) (s:ByteArray),LeO (noriaref11_Decimal.l0 j x s) (noriaref11_Decimal.l0 (j+1) x s):=fun j x s=>by
    have:=noriaref11_Decimal.mono_l j;first|exact this.1 x s|exact this.2 x s
  have h0:=dec_l0 20 n [UInt8.ofNat (48+n % 10)] (by omega) hn (by simp)
  have h1:∀ j,21≤j→noriaref11_Decimal.l0 j (n:Int) (ofL [UInt8.ofNat (48+n % 10)])=some (ofL ((if n < 10 then [] else Lib.decDigits (n / 10))++[UInt8.ofNat (48+n % 10)])):=by
    intro j hj
    induction hj with
    |refl=>exact h0
    |step _ ih=>exact hm _ _ _ _ ih
  rw [h1 k (by omega)]
  congr 2
  by_cases h:n < 10
  ·rw [if_pos h,dd_lt h,Nat.mod_eq_of_lt h]
   rfl
  ·rw [if_neg h,← dd_ge h]
theorem dec_neg:∀ (j m k:Nat),m < 10 ^ (j+1)→0 < m→m≤9223372036854775808→31+j≤k→noriaref11_Decimal.f (k+1) (-(m:Int))=some (ofL (45 :: Lib.decDigits m))
  |j,m,k,hj,h0,hm,hk=>by
   rw [noriaref11_Decimal.f,if_pos (by omega)];obtain ⟨k,rfl⟩:∃ q,k=q+1:=⟨k - 1,by omega⟩;by_cases h:m < 10
   ·rw [if_pos (by omega),Int.neg_neg,w64 (by omega) (by omega),dec_nat k m (by omega) (by omega),Option.bind_some,dd_lt h]
    rw [if_pos (by rw [ofL_size];simp)]
    congr 1
   ·rw [if_neg (by omega)]
    obtain ⟨j,rfl⟩:∃ q,j=q+1:=by
      cases j with
      |zero=>exact absurd hj (by simpa using h)
      |succ q=>exact ⟨q,rfl⟩
    have e1:Int.tdiv (-(m:Int)) 10 = -((m / 10:Nat):Int):=by rw [Int.neg_tdiv];rfl
    have e2:Int.tmod (-(m:Int)) 10 = -((m % 10:Nat):Int):=by rw [Int.neg_tmod];rfl
    have ew:wrap64 (-((m / 10:Nat):Int)) = -((m / 10:Nat):Int):=w64 (by omega) (by omega);have ev:wrap64 ((m % 10:Nat):Int)=((m % 10:Nat):Int):=w64 (by omega) (by omega);rw [e1,e2,Int.neg_neg,ew,ev];rw [dec_neg j (m / 10) k (by rw [Nat.pow_succ] at hj;omega) (by omega) (by omega) (by omega),Option.bind_some,dec_nat k (m % 10) (by omega) (by omega),Option.bind_some]
    have hl:(Lib.decDigits (m / 10)).length≤100:=by
      rw [Lib.decDigits_length];have:=Lib.itoa_length_le ((m / 10:Nat):Int) (by omega) (by omega);unfold Lib.itoa at this;rw [if_neg (by omega),Int.toNat_natCast,Lib.decDigits_length] at this;omega
    rw [dd_lt (Nat.mod_lt _ (by decide))];rw [if_pos (by rw [ofL_size,ofL_size];simp only [List.length_cons,List.length_nil];omega),ofL_app,dd_ge h];rfl
theorem decimal (k:Nat) (hk:60≤k) (a:Int) (h0 : -9223372036854775808≤a) (h1:a≤9223372036854775807):noriaref11_Decimal.f k a=some (ofL (Lib.itoa a)):=by
  obtain ⟨k,rfl⟩:∃ q,k=q+1:=⟨k - 1,by omega⟩;unfold Lib.itoa;by_cases h:a < 0
  ·rw [if_pos h]
   obtain ⟨m,rfl⟩:∃ m:Nat,a = -(m:Int):=⟨a.natAbs,by omega⟩;rw [dec_neg 20 m k (by omega) (by omega) (by omega) (by omega),Int.natAbs_neg,Int.natAbs_natCast]
  ·rw [if_neg h]
   obtain ⟨m,rfl⟩:∃ m:Nat,a=(m:Int):=⟨a.toNat,by omega⟩;rw [dec_nat k m (by omega) (by omega),Int.toNat_natCast]
end Go.Proofs.YtcpjlbdjnaaaiaaGreatDoor.Num
