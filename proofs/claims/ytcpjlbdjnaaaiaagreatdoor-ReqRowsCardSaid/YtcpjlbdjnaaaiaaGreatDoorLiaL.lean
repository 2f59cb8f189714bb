import Derived.Lib.SpaceUEq
namespace Go.Proofs.YtcpjlbdjnaaaiaaGreatDoor.Lia
open Go Go.Lib
def lia (l:List UInt8):Nat→Int
  | 0 => -1
  |i+1=>if (l.getD i 0).toNat=43∨(l.getD i 0).toNat=45 then (i:Int) else lia l i
theorem lia_skip (l:List UInt8) (b:Nat):∀ a,(∀ j,b≤j→j < b+a→128≤(l.getD j 0).toNat)→lia l (b+a)=lia l b
  | 0,_=>rfl
  |a+1,h=>by
   rw [← lia_skip l b a (fun j h1 h2=>h j h1 (by omega)),← Nat.add_assoc,lia,if_neg];have:=h (b+a) (by omega) (by omega);omega
theorem lia_step (l:List UInt8) (i:Nat) (hi:0 < i) (hil:i≤l.length):
    1≤(decodeLastL (l.take i)).2∧(decodeLastL (l.take i)).2≤i∧(decodeLastL (l.take i)).1≤1114111 ∧
    (if (decodeLastL (l.take i)).1=43∨(decodeLastL (l.take i)).1=45 then lia l i=((i - (decodeLastL (l.take i)).2:Nat):Int) else lia l i=lia l (i - (decodeLastL (l.take i)).2)):=by
  have hlen:(l.take i).length=i:=by rw [List.length_take];omega
  have hw:=decodeLastL_width (l.take i) (by omega);rw [hlen] at hw;refine ⟨hw.1,hw.2,decodeLastL_rune _,?_⟩;obtain ⟨j,rfl⟩:∃ j,i=j+1:=⟨i - 1,by omega⟩;rcases last_cases l (j+1) hi hil with ⟨h1,h2⟩|⟨h1,h2⟩|⟨h1,st,h3,h2,h4⟩
  ·rw [h2]
   simp only [Nat.add_sub_cancel] at h1 ⊢
   split
   ·rename_i c;rw [lia,if_pos c]
   ·rename_i c;rw [lia,if_neg c]
  ·rw [h2,if_neg (by decide)]
   simp only [Nat.add_sub_cancel] at h1 ⊢;rw [lia,if_neg (by omega)]
  ·rw [h2]
   generalize hm:(l.take (j+1)).drop st=m at *
   have hg:∀ k,m.getD k 0=(l.take (j+1)).getD (st+k) 0:=fun k=>by rw [← hm,getD_dropU]
   have hmn:m.length=j+1 - st:=by rw [← hm,List.length_drop,hlen]
   have hN:=decodeL_N m;have hc:=decodeN_cases m.length (m.getD 0 0).toNat (m.getD 1 0).toNat (m.getD 2 0).toNat (m.getD 3 0).toNat;have hk:=decodeN_conts m.length (m.getD 0 0).toNat (m.getD 1 0).toNat (m.getD 2 0).toNat (m.getD 3 0).toNat;rw [← hN] at hc hk
   generalize decodeL m=d at *
   obtain ⟨r,n⟩:=d;simp only at *
   have hfirst:n=1→(m.getD 0 0).toNat ≥ 128:=by
     intro h;rw [hg 0,getD_takeU l (j+1) _ (by omega),show st+0=j by omega]
     simpa using h1
   have hb0:(m.getD 0 0).toNat ≥ 128:=by
     rcases hc with ⟨a,b⟩|⟨a,_⟩|⟨a,_⟩|⟨a,b⟩|b
     ·exact hfirst (Prod.mk.inj b).2
     ·omega
     ·omega
     ·by_cases hlt:(m.getD 0 0).toNat < 128
      ·exfalso
       have:=decodeN_ascii m.length (m.getD 0 0).toNat (m.getD 1 0).toNat (m.getD 2 0).toNat (m.getD 3 0).toNat hlt;rw [← hN] at this;have:=(Prod.mk.inj this).2;omega
      ·omega
     ·exact hfirst (Prod.mk.inj b).2
   have hr:128≤r:=by
     rcases hc with ⟨a,b⟩|⟨_,_,_,a,b⟩|⟨_,_,_,_,a,b⟩|⟨a,b⟩|b
     ·omega
     ·have:=(Prod.mk.inj b).1;omega
     ·have:=(Prod.mk.inj b).1;omega
     ·omega
     ·have:=(Prod.mk.inj b).1;omega
   rw [if_neg (by omega),show j+1 - n=st by omega,show j+1=st+n by omega];refine lia_skip l st n (fun x h5 h6=>?_);obtain ⟨k,rfl⟩:∃ k,x=st+k:=⟨x - st,by omega⟩;rw [← getD_takeU l (j+1) (st+k) (by omega),← hg k];have:k=0∨k=1∨k=2∨k=3:=by omega
   rcases this with rfl|rfl|rfl|rfl<;>omega
end Go.Proofs.YtcpjlbdjnaaaiaaGreatDoor.Lia
