/- Words and contracts for the laws of encode. -/
import Derived.Test.YtipjpdiianopcaaqCen
import Derived.Test.YtipjpdiianopcaaqAx16
import Derived.Test.YtipjpdiianopcaaqAx15
set_option linter.unusedSimpArgs false
namespace Go.Proofs.Ytipjpdiianopcaa.Ppa
open Go.RowKit Go.Proofs.YtipjpdiianopcaaW.dF Go.Proofs.YtipjpdiianopcaaW.fO Go.Proofs.Ytipjpdiianopcaa.A Go.Proofs.Ytipjpdiianopcaa.Pure
set_option linter.unusedVariables false
theorem QL (x:Int):Go.bits .and .i64 x 255=x%256:=by
 have h:(BitVec.ofInt 64 x &&& BitVec.ofInt 64 255).toNat=(x%18446744073709551616).toNat%256:=by
  rw [BitVec.toNat_and,BitVec.toNat_ofInt,show (BitVec.ofInt 64 255).toNat=2 ^ 8-1 by decide,Nat.and_two_pow_sub_one_eq_mod]
  rfl
 show IntKind.i64.wrap ((BitVec.ofInt 64 x &&& BitVec.ofInt 64 255).toNat:Int)=x%256
 rw [h,IntKind.wrap_i64]
 omega
def hv:List Int→List Int→List Int
 | k :: l,a :: r=>if k=1∨k=2 then a :: hv l r else hv l r
 | _,_=>[]
def ob (k a:Int):List Int :=
 if k=3∨k=5 then [a%256] else if k=6 then [a%256,a / 256%256] else if k=4 then [a%256,a / 256%256,a / 65536%256,a / 16777216%256] else []
def rb:List Int→List Int→List Int
 | k :: l,a :: r=>ob k a ++ rb l r
 | _,_=>[]
def pr:List Int→List Int
 | []=>[]
 | [a]=>[a%256]
 | a :: b :: r=>(a+16*b)%256 :: pr r
def EI (c:Int) (l args:List Int):List Int:=c%256 :: (pr (hv l args) ++ rb l args)
theorem aLk:∀ (n:Nat) (h:List Int),h.length≤n→h.length%2=1→pr (h ++ [0])=pr h
 | 0,[],_,h=>by simp at h
 | n+1,[],_,h=>by simp at h
 | _,[a],_,_=>by simp [pr]
 | 0,a :: b :: r,h,_=>by simp at h
 | n+1,a :: b :: r,h,h2=>by
  have:=aLk n r (by simp at h;omega) (by simp at h2;omega)
  simp only [List.cons_append,pr,this]
theorem aG_ (h rest:List Int) (hh:h.length%2=0) (hl:h.length≤1000) (hr:rest.length≤1000000):∀ (n k:Nat) (out:List Int) (i:Nat),h.length-i≤n→i≤h.length→i%2=0→n<k→out.length≤1000000+i →
  aV.l1 k out h rest (i:Int)=some (out ++ pr (h.drop i) ++ rest):=by
 intro n
 induction n using Nat.strongRecOn with
 | ind n ih =>
  intro k out i hn hi h2 hk ho
  obtain ⟨k,rfl⟩:∃ k',k=k'+1:=⟨k-1,by omega⟩
  rw [aV.l1]
  by_cases c:i<h.length
  ·have c1:i+1<h.length:=by omega
   have w1:wrap64 ((i:Int)+1)=((i+1:Nat):Int):=by unfold wrap64;omega
   have w2:wrap64 ((i:Int)+2)=((i+2:Nat):Int):=by unfold wrap64;omega
   rw [if_pos (by omega),if_pos (by omega),w1,if_pos (by omega),if_pos (by omega),if_pos (by omega),w2];have e1:rd h (i:Int)=h[i]:=by simp [rd,c]
   have e2:rd h ((i+1:Nat):Int)=h[i+1]:=by rw [rd,Int.toNat_natCast,List.getD_eq_getElem?_getD,Nr c1];rfl
   rw [e1,e2,ih (h.length-(i+2)) (by omega) k _ (i+2) (by omega) (by omega) (by omega) (by omega) (by simp;omega)];have e3:h.drop i=h[i] :: h[i+1] :: h.drop (i+2):=by rw [List.drop_eq_getElem_cons c,List.drop_eq_getElem_cons c1]
   have e4:wrap64 (h[i]+wrap64 (16*h[i+1]))%256=(h[i]+16*h[i+1])%256:=by unfold wrap64;omega
   rw [e3,e4,pr]
   simp
  ·have e:h.drop i=[]:=List.drop_eq_nil_of_le (by omega);rw [if_neg (by omega),if_pos (by omega),e]
   simp [pr]
theorem Nu (l:List Int) (i:Nat) (h:i<l.length):rd l (i:Int)=l[i]:=by
 rw [rd,Int.toNat_natCast,List.getD_eq_getElem?_getD,Nr h];rfl
theorem drop_at (l:List Int) (i:Nat) (h:i<l.length):l.drop i=l[i] :: l.drop (i+1):=List.drop_eq_getElem_cons h
theorem aLl (out hs rs:List Int) (hl:hs.length≤900) (hr:rs.length≤1000000) (ho:out.length≤1000) (k:Nat) (hk:hs.length+4<k) :
  (if ((hs.length:Int)%2)=1 then (if hs.length<17592186044416 then (aV.j3 k out (hs ++ [0]) rs) else (none)) else (aV.j3 k out hs rs))=some (out ++ pr hs ++ rs):=by
 obtain ⟨k,rfl⟩:∃ k',k=k'+1:=⟨k-1,by omega⟩
 by_cases c:(hs.length:Int)%2=1
 ·rw [if_pos c,if_pos (by omega),aV.j3]
  have h:=aG_ (hs ++ [0]) rs (by simp;omega) (by simp;omega) hr (hs.length+1) k out 0 (by simp) (by simp) (by simp) (by omega) (by omega)
  rw [List.drop_zero,aLk hs.length hs (Nat.le_refl _) (by omega)] at h
  exact h
 ·rw [if_neg c,aV.j3]
  have h:=aG_ hs rs (by omega) (by omega) hr hs.length k out 0 (by omega) (by omega) (by simp) (by omega) (by omega)
  rw [List.drop_zero] at h
  exact h
theorem aN_ (args l:List Int) (nm:ByteArray) (c:Int) (he:args.length=l.length) (hlen:l.length≤200) (out:List Int) (ho:out.length≤1000):∀ (d k i:Nat) (hs rs:List Int),i+d=l.length→hs.length+d≤800→rs.length+4*d≤1000000→4*d+hs.length+10<k →
  aV.l0 k args out hs rs (i:Int) nm c l=some (out ++ pr (hs ++ hv (l.drop i) (args.drop i)) ++ (rs ++ rb (l.drop i) (args.drop i))):=by
 intro d
 induction d with
 | zero =>
  intro k i hs rs hi hh hr hk
  obtain ⟨k,rfl⟩:∃ k',k=k'+1:=⟨k-1,by omega⟩
  have e1:l.drop i=[]:=List.drop_eq_nil_of_le (by omega)
  have e2:args.drop i=[]:=List.drop_eq_nil_of_le (by omega)
  rw [aV.l0,if_neg (by omega),e1,e2,aLl out hs rs (by omega) (by omega) ho k (by omega)]
  simp [hv,rb]
 | succ d ih =>
  intro k i hs rs hi hh hr hk
  obtain ⟨k,rfl⟩:∃ k',k=k'+3:=⟨k-3,by omega⟩
  have c1:i<l.length:=by omega
  have c2:i<args.length:=by omega
  have w1:wrap64 ((i:Int)+1)=((i+1:Nat):Int):=by unfold wrap64;omega
  have r1:=Nu l i c1
  have r2:=Nu args i c2
  rw [drop_at l i c1,drop_at args i c2,hv,rb]
  generalize l[i]=x at r1 ⊢
  generalize args[i]=a at r2 ⊢
  have go:∀ b:Bool,b=decide (x=1∨x=2)→aV.j1 (k+2) args out hs rs (i:Int) x b nm c l=some (out ++ pr (hs ++ (if x=1∨x=2 then a :: hv (l.drop (i+1)) (args.drop (i+1)) else hv (l.drop (i+1)) (args.drop (i+1)))) ++ (rs ++ (ob x a ++ rb (l.drop (i+1)) (args.drop (i+1))))):=by
   intro b hb;rw [aV.j1]
   by_cases h12:x=1∨x=2
   ·rw [fB h12] at hb;subst hb;have eo:ob x a=[]:=by unfold ob;rw [if_neg (by omega),if_neg (by omega),if_neg (by omega)]
    rw [if_pos rfl,if_pos (by omega),if_pos (by omega),if_pos (by omega),r2,w1,if_pos h12,eo,ih (k+1) (i+1) _ _ (by omega) (by simp;omega) (by omega) (by simp;omega)]
    simp
   ·rw [kT h12] at hb;subst hb;rw [if_neg (by simp),if_neg h12];have go2:∀ b:Bool,b=decide (x=3∨x=5)→aV.j2 (k+1) args out hs rs (i:Int) x b nm c l=some (out ++ pr (hs ++ hv (l.drop (i+1)) (args.drop (i+1))) ++ (rs ++ (ob x a ++ rb (l.drop (i+1)) (args.drop (i+1))))):=by
     intro b hb;rw [aV.j2]
     by_cases h35:x=3∨x=5
     ·rw [fB h35] at hb;subst hb;have eo:ob x a=[a%256]:=by unfold ob;rw [if_pos h35]
      rw [if_pos rfl,if_pos (by omega),if_pos (by omega),if_pos (by omega),r2,w1,eo,QL,ih k (i+1) _ _ (by omega) (by omega) (by simp;omega) (by omega)]
      simp
     ·rw [kT h35] at hb;subst hb;rw [if_neg (by simp)]
      by_cases h6:x=6
      ·have eo:ob x a=[a%256,a / 256%256]:=by unfold ob;rw [if_neg h35,if_pos h6]
       rw [if_pos h6,if_pos (by omega),if_pos (by omega),Option.bind_some,if_pos (by simp;omega),r2,w1,eo,QL,QL,ih k (i+1) _ _ (by omega) (by omega) (by simp;omega) (by omega)]
       simp
      ·rw [if_neg h6]
       by_cases h4:x=4
       ·have eo:ob x a=[a%256,a / 256%256,a / 65536%256,a / 16777216%256]:=by unfold ob;rw [if_neg h35,if_neg h6,if_pos h4]
        rw [if_pos h4,if_pos (by omega),if_pos (by omega),Option.bind_some,if_pos (by simp;omega),r2,w1,eo,QL,QL,QL,QL,ih k (i+1) _ _ (by omega) (by omega) (by simp;omega) (by omega)]
        simp
       ·have eo:ob x a=[]:=by unfold ob;rw [if_neg h35,if_neg h6,if_neg h4]
        rw [if_neg h4,w1,eo,ih k (i+1) _ _ (by omega) (by omega) (by omega) (by omega)]
        simp
    by_cases h3:x=3
    ·rw [if_pos h3];exact go2 _ (by subst h3;decide)
    ·rw [if_neg h3];exact go2 _ (by by_cases h5:x=5 <;> simp [h3,h5])
  rw [aV.l0,if_pos (by omega),if_pos (by omega),if_pos (by omega),r1]
  by_cases h1:x=1
  ·rw [if_pos h1];exact go _ (by subst h1;decide)
  ·rw [if_neg h1];exact go _ (by by_cases h5:x=2 <;> simp [h1,h5])
theorem aT5 (nm:ByteArray) (c:Int) (l args:List Int) (he:args.length=l.length) (hlen:l.length≤200) (k:Nat) (hk:1000<k):aV.f k nm c l args=some (EI c l args):=by
 unfold aV.f
 have h:=aN_ args l nm c he hlen [c%256] (by simp) l.length k 0 [] [] (by omega) (by simp;omega) (by simp;omega) (by simp;omega)
 simp only [List.drop_zero,List.nil_append] at h
 simpa [EI] using h
end Go.Proofs.Ytipjpdiianopcaa.Ppa
