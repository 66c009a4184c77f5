/- Words and contracts for the laws of encode. -/
import Derived.Test.YtipjpdiianopcaaqAx5
import Derived.Test.YtipjpdiianopcaaqAx8
import Derived.Test.YtipjpdiianopcaaqAx6
import Derived.Test.YtipjpdiianopcaaqAx9
import Derived.Test.YtipjpdiianopcaaqCv
import Derived.Test.YtipjpdiianopcaaqAx7
import Derived.Test.YtipjpdiianopcaaqAx10
import Derived.Test.YtipjpdiianopcaaqEx2
import Derived.Test.YtipjpdiianopcaaqCrow
set_option linter.unusedVariables false
set_option linter.unusedSimpArgs false
namespace Go.Proofs.Ytipjpdiianopcaa.Pure
open Go.RowKit Go.Proofs.Ytipjpdiianopcaa.A Go.Proofs.YtipjpdiianopcaaW.dF Go.Proofs.YtipjpdiianopcaaW.fO
def letters (s:ByteArray):Nat→Nat→Bool
 | 0,_=>true
 | d+1,i=>decide (97≤bt s i)&&decide (bt s i≤122)&&letters s d (i+1)
def OE (s:ByteArray):Bool:=letters s s.size 0&&(decide (1≤s.size)&&decide (s.size≤16))
theorem aOi (s:ByteArray) (i:Int):wrap64 (bt s i)=bt s i:=by have:=aLv s i;unfold wrap64;omega
theorem aDf (s:ByteArray) (hs:s.size≤1000000000000000):∀ (d k i:Nat),i+d=s.size→d<k→lS.l0 k s (s.size:Int) (i:Int)=some (letters s d i&&(decide (1≤s.size)&&decide (s.size≤16))):=by
 intro d
 induction d with
 | zero =>
  intro k i hi hk
  obtain ⟨k,rfl⟩:∃ k',k=k'+1:=⟨k-1,by omega⟩
  rw [lS.l0,if_neg (by omega)]
  simp only [letters,Bool.true_and]
  by_cases h:(s.size:Int)≥1
  ·rw [if_pos h,fB (show 1≤s.size by omega),Bool.true_and]
   congr 1
   exact decide_eq_decide.2 (by omega)
  ·rw [if_neg h,kT (show ¬ 1≤s.size by omega),Bool.false_and]
 | succ d ih =>
  intro k i hi hk
  obtain ⟨k,rfl⟩:∃ k',k=k'+1:=⟨k-1,by omega⟩
  have hw:wrap64 ((i:Int)+1)=((i+1:Nat):Int):=by unfold wrap64;omega
  rw [lS.l0,if_pos (by omega),if_pos (by omega),if_pos (by omega)]
  simp only [letters]
  by_cases h1:bt s i<97
  ·rw [if_pos h1,kT (by omega)];simp
  ·rw [if_neg h1,fB (show (97:Int)≤bt s i by omega)]
   by_cases h2:bt s i>122
   ·rw [if_pos h2,kT (by omega)];simp
   ·rw [if_neg h2,fB (show bt s i≤122 by omega),hw,ih k (i+1) (by omega) (by omega)]
    simp
theorem aEC (s:ByteArray) (hs:s.size≤1000000000000000) (k:Nat) (hk:s.size<k):lS.f k s=some (OE s):=aDf s hs s.size k 0 (by omega) hk
theorem aIs (a b c:Int):bI.f a b c=some (decide (b≤a)&&decide (a≤c)):=by
 unfold bI.f
 by_cases h:a≥b
 ·rw [if_pos h,fB (show b≤a from h),Bool.true_and]
 ·rw [if_neg h,kT (show ¬ b≤a from h),Bool.false_and]
theorem aED (s:ByteArray) (hs:s.size≤1000000000000000):∀ (d k i:Nat),i+d=s.size→d<k→iC.l0 k s (i:Int)=some (letters s d i&&(decide (1≤s.size)&&decide (s.size≤16))):=by
 intro d
 induction d with
 | zero =>
  intro k i hi hk
  obtain ⟨k,rfl⟩:∃ k',k=k'+1:=⟨k-1,by omega⟩
  rw [iC.l0,if_neg (by omega),aIs]
  simp only [letters,Bool.true_and,Option.bind_some]
  congr 2 <;> exact decide_eq_decide.2 (by omega)
 | succ d ih =>
  intro k i hi hk
  obtain ⟨k,rfl⟩:∃ k',k=k'+1:=⟨k-1,by omega⟩
  have hw:wrap64 ((i:Int)+1)=((i+1:Nat):Int):=by unfold wrap64;omega
  rw [iC.l0,if_pos (by omega),if_pos (by omega),aIs,aOi]
  simp only [letters,Option.bind_some]
  by_cases h1:(97:Int)≤bt s i
  ·by_cases h2:bt s i≤122
   ·rw [fB h1,fB h2,hw,ih k (i+1) (by omega) (by omega)];simp
   ·rw [fB h1,kT h2];simp
  ·rw [kT h1];simp
theorem aIw (s:ByteArray) (hs:s.size≤1000000000000000) (k:Nat) (hk:s.size<k):iC.f k s=some (OE s):=aED s hs s.size k 0 (by omega) hk
end Go.Proofs.Ytipjpdiianopcaa.Pure
namespace Go.Proofs.Ytipjpdiianopcaa.Pure
open Go.RowKit Go.Proofs.Ytipjpdiianopcaa.A Go.Proofs.YtipjpdiianopcaaW.dF Go.Proofs.YtipjpdiianopcaaW.fO
def kf:List Int→Int→Int
 | [],n=>if n>1 then 5 else 0
 | x :: r,n=>if x<1∨6<x then 4 else kf r (if 5≤x then n+1 else n)
theorem FU (l:List Int) (i:Nat) (h:i<l.length):l.drop i=rd l (i:Int) :: l.drop (i+1):=by
 rw [List.drop_eq_getElem_cons h]
 congr 1
 unfold rd
 rw [Int.toNat_natCast,List.getD_eq_getElem?_getD,Nr h]
 rfl
theorem aOj (l:List Int) (hl:l.length≤4):∀ (d k i:Nat) (n:Int),i+d=l.length→2*d<k→0≤n→n≤i→jZ.l0 k n l (l.length:Int) (i:Int)=some (kf (l.drop i) n):=by
 intro d
 induction d with
 | zero =>
  intro k i n hi hk _ _
  obtain ⟨k,rfl⟩:∃ k',k=k'+1:=⟨k-1,by omega⟩
  rw [jZ.l0,if_neg (by omega),List.drop_of_length_le (by omega),kf]
  by_cases h:n>1
  ·rw [if_pos h,if_pos h]
  ·rw [if_neg h,if_neg h]
 | succ d ih =>
  intro k i n hi hk h0 h1
  obtain ⟨k,rfl⟩:∃ k',k=k'+1+1:=⟨k-2,by omega⟩
  have hw:wrap64 ((i:Int)+1)=((i+1:Nat):Int):=by unfold wrap64;omega
  have hn:wrap64 (n+1)=n+1:=by unfold wrap64;omega
  rw [jZ.l0,if_pos (by omega),if_pos (by omega),if_pos (by omega),FU l i (by omega),kf]
  generalize rd l (i:Int)=x
  by_cases hx:x<1
  ·rw [if_pos hx,jZ.j2,if_pos rfl,if_pos (Or.inl hx)]
  ·rw [if_neg hx]
   by_cases hy:x>6
   ·rw [fB hy,jZ.j2,if_pos rfl,if_pos (Or.inr hy)]
   ·rw [kT hy,jZ.j2,if_neg (show ¬ (false=true) by simp),if_neg (show ¬ (x<1∨6<x) by omega),hw]
    by_cases hz:x≥5
    ·rw [if_pos hz,if_pos (show 5≤x from hz),hn];exact ih k (i+1) (n+1) (by omega) (by omega) (by omega) (by omega)
    ·rw [if_neg hz,if_neg (show ¬ 5≤x from hz)];exact ih k (i+1) n (by omega) (by omega) (by omega) (by omega)
def FX (s:ByteArray) (c:Int) (l:List Int):Int:=if OE s=true then (if c<0∨255<c then 3 else if l.length>4 then 2 else kf l 0) else 12
theorem aUj (s:ByteArray) (c:Int) (l:List Int) (hs:s.size≤1000000000000000) (k:Nat) (hk:s.size+20<k):jZ.f k s c l=some (FX s c l):=by
 unfold jZ.f FX
 rw [aEC s hs k (by omega),Option.bind_some]
 by_cases h:OE s=true
 ·rw [if_pos h,if_pos h]
  obtain ⟨k,rfl⟩:∃ k',k=k'+1:=⟨k-1,by omega⟩
  by_cases h1:c<0
  ·rw [if_pos h1,if_pos (Or.inl h1),jZ.j0,if_pos rfl]
  ·rw [if_neg h1]
   by_cases h2:c>255
   ·rw [fB h2,if_pos (Or.inr h2),jZ.j0,if_pos rfl]
   ·rw [kT h2,jZ.j0,if_neg (show ¬ (false=true) by simp),if_neg (show ¬ (c<0∨255<c) by omega)]
    by_cases h3:l.length>4
    ·rw [if_pos (show (l.length:Int)>4 by omega),if_pos h3]
    ·rw [if_neg (show ¬ (l.length:Int)>4 by omega),if_neg h3];exact aOj l (by omega) l.length k 0 0 (by omega) (by omega) (by omega) (by omega)
 ·rw [if_neg h,if_neg h]
end Go.Proofs.Ytipjpdiianopcaa.Pure
namespace Go.Proofs.Ytipjpdiianopcaa.Pure
open Go.RowKit Go.Proofs.Ytipjpdiianopcaa.A Go.Proofs.Ytipjpdiianopcaa.Cv Go.Proofs.YtipjpdiianopcaaW.dF Go.Proofs.YtipjpdiianopcaaW.fO
def tf (t:List nJ):Nat→Nat→Int × Int
 | 0,_=>(0,0)
 | d+1,i=>if FX (aI t i).f0 (aI t i).f1 (aI t i).f2=0 then (if (t.take i).any (Ij (aI t i))=true then (7,(i:Int)) else tf t d (i+1)) else (FX (aI t i).f0 (aI t i).f1 (aI t i).f2,(i:Int))
def vS (t:List nJ):Int × Int:=if t.length>100 then (2,-1) else tf t t.length 0
theorem aBy (t:List nJ) (i:Nat) (h:i<t.length):aI t (i:Int) ∈ t:=by
 unfold aI
 rw [Int.toNat_natCast,List.getD_eq_getElem?_getD,Nr h]
 exact List.getElem_mem h
theorem aDg (t:List nJ) (ht:t.length≤100) (N:Nat) (hN:∀ f ∈ t,f.f0.size≤N) (hN2:N≤1000000000000000):∀ (d k i:Nat),i+d=t.length→d+N+30<k→jQ.l0 k t (i:Int)=some (tf t d i):=by
 intro d
 induction d with
 | zero =>
  intro k i hi hk
  obtain ⟨k,rfl⟩:∃ k',k=k'+1:=⟨k-1,by omega⟩
  rw [jQ.l0,if_neg (show ¬ (i:Int)<(t.length:Int) by omega),tf]
 | succ d ih =>
  intro k i hi hk
  obtain ⟨k,rfl⟩:∃ k',k=k'+1:=⟨k-1,by omega⟩
  have hw:wrap64 ((i:Int)+1)=((i+1:Nat):Int):=by unfold wrap64;omega
  have hm:=hN _ (aBy t i (by omega))
  rw [jQ.l0,if_pos (show (i:Int)<(t.length:Int) by omega),aUj _ _ _ (by omega) k (by omega),Option.bind_some,tf,Int.toNat_natCast]
  by_cases h:FX (aI t i).f0 (aI t i).f1 (aI t i).f2=0
  ·rw [if_pos h,if_pos h]
   by_cases h2:(t.take i).any (Ij (aI t i))=true
   ·rw [if_pos h2,if_pos h2]
   ·rw [if_neg h2,if_neg h2,hw];exact ih k (i+1) (by omega) (by omega)
  ·rw [if_neg h,if_neg h]
theorem aEE (t:List nJ) (N:Nat) (hN:∀ f ∈ t,f.f0.size≤N) (hN2:N≤1000000000000000) (k:Nat) (hk:N+200<k):jQ.f k t=some (vS t):=by
 unfold jQ.f vS
 by_cases h:t.length>100
 ·rw [if_pos (show (t.length:Int)>100 by omega),if_pos h]
 ·rw [if_neg (show ¬ (t.length:Int)>100 by omega),if_neg h]
  exact aDg t (by omega) N hN hN2 t.length k 0 (by omega) (by omega)
end Go.Proofs.Ytipjpdiianopcaa.Pure
namespace Go.Proofs.Ytipjpdiianopcaa.Pure
open Go.RowKit Go.Proofs.Ytipjpdiianopcaa.A Go.Proofs.Ytipjpdiianopcaa.Cv Go.Proofs.YtipjpdiianopcaaW.dF Go.Proofs.YtipjpdiianopcaaW.fO
theorem aDh (a b:List Int) (hl:a.length=b.length) (hn:a.length<1000000000000000):∀ (d k i:Nat),i+d=a.length→d<k→eF.l0 k a b (i:Int)=some (decide (a.drop i=b.drop i)):=by
 intro d
 induction d with
 | zero =>
  intro k i hi hk
  obtain ⟨k,rfl⟩:∃ k',k=k'+1:=⟨k-1,by omega⟩
  rw [eF.l0,if_neg (show ¬ (i:Int)<(a.length:Int) by omega),List.drop_of_length_le (by omega),List.drop_of_length_le (by omega)]
  rfl
 | succ d ih =>
  intro k i hi hk
  obtain ⟨k,rfl⟩:∃ k',k=k'+1:=⟨k-1,by omega⟩
  have hw:wrap64 ((i:Int)+1)=((i+1:Nat):Int):=by unfold wrap64;omega
  rw [eF.l0,if_pos (show (i:Int)<(a.length:Int) by omega),if_pos (show (0:Int)≤(i:Int) by omega),if_pos (show (i:Int)<(b.length:Int) by omega),FU a i (by omega),FU b i (by omega)]
  by_cases h:rd a (i:Int)=rd b (i:Int)
  ·rw [if_pos h,hw,ih k (i+1) (by omega) (by omega),h]
   simp
  ·rw [if_neg h]
   simp [h]
theorem aLw (a b:List Int) (hn:a.length<1000000000000000) (k:Nat) (hk:a.length<k):eF.f k a b=some (decide (a=b)):=by
 unfold eF.f
 by_cases h:a.length=b.length
 ·rw [if_pos (show (a.length:Int)=(b.length:Int) by omega)]
  exact aDh a b h hn a.length k 0 (by omega) hk
 ·rw [if_neg (show ¬ (a.length:Int)=(b.length:Int) by omega),kT (fun e=>h (by rw [e]))]
theorem aEF (f g:nJ) (hn:f.f2.length<1000000000000000) (k:Nat) (hk:f.f2.length<k):pM.f k f.f0 f.f1 f.f2 g.f0 g.f1 g.f2=some (f.f0.toList==g.f0.toList&&decide (f.f2=g.f2)):=by
 unfold pM.f
 by_cases h:f.f0.toList=g.f0.toList
 ·rw [if_pos h,aLw _ _ hn k hk]
  simp [h]
 ·rw [if_neg h]
  simp [h]
end Go.Proofs.Ytipjpdiianopcaa.Pure
namespace Go.Proofs.Ytipjpdiianopcaa.Pure
open Go.RowKit Go.Proofs.Ytipjpdiianopcaa.A Go.Proofs.Ytipjpdiianopcaa.Cv Go.Proofs.YtipjpdiianopcaaW.dF Go.Proofs.YtipjpdiianopcaaW.fO
def dup (t:List nJ) (f:nJ):Nat→Nat→Bool
 | 0,_=>false
 | d+1,j=>Ij f (aI t j) || dup t f d (j+1)
theorem OB (x y:Int):bD.f x y=some (x,y):=rfl
theorem aLx (f g:nJ):Ij f g=(decide (g.f1=f.f1) || (g.f0.toList==f.f0.toList&&decide (g.f2=f.f2))):=by
 unfold Ij
 have e1:(f.f1==g.f1)=decide (g.f1=f.f1):=by
  by_cases h:g.f1=f.f1
  ·rw [fB h,h];exact beq_self_eq_true _
  ·rw [kT h];exact beq_eq_false_iff_ne.2 (fun e=>h e.symm)
 have e2:(f.f0.toList==g.f0.toList)=(g.f0.toList==f.f0.toList):=by
  by_cases h:g.f0.toList=f.f0.toList
  ·rw [h]
  ·rw [beq_eq_false_iff_ne.2 h,beq_eq_false_iff_ne.2 (fun e=>h e.symm)]
 have e3:decide (f.f2=g.f2)=decide (g.f2=f.f2):=decide_eq_decide.2 ⟨Eq.symm,Eq.symm⟩
 rw [e1,e2,e3]
theorem aLy (t:List nJ) (N:Nat) (hN:∀ f ∈ t,f.f2.length≤N) (hN2:N<1000000000000000) (ht:t.length≤100) (f:nJ) (i:Nat) (hi:i<t.length):∀ (d k j:Nat),j+d=i→N<k →
  bC.l2 (k+d+1) t (i:Int) (j:Int) f.f0 f.f1 f.f2=if dup t f d j=true then some (7,(i:Int)) else bC.l0 k t ((i+1:Nat):Int):=by
 intro d
 induction d with
 | zero =>
  intro k j hj hk
  have hw:wrap64 ((i:Int)+1)=((i+1:Nat):Int):=by unfold wrap64;omega
  rw [bC.l2,if_neg (show ¬ (j:Int)<(i:Int) by omega),hw,dup,if_neg (by simp)]
 | succ d ih =>
  intro k j hj hk
  have hw:wrap64 ((j:Int)+1)=((j+1:Nat):Int):=by unfold wrap64;omega
  have hm:=hN _ (aBy t j (by omega))
  rw [show k+(d+1)+1=(k+d+1)+1 from by omega,bC.l2,if_pos (show (j:Int)<(i:Int) by omega),if_pos (show (0:Int)≤(j:Int) by omega),if_pos (show (j:Int)<(t.length:Int) by omega),dup,aLx]
  by_cases h:(aI t j).f1=f.f1
  ·rw [if_pos h,OB]
   simp [h]
  ·rw [if_neg h,aEF _ f (by omega) _ (by omega),Option.bind_some,kT h,Bool.false_or,hw]
   by_cases h2:((aI t j).f0.toList==f.f0.toList&&decide ((aI t j).f2=f.f2))=true
   ·rw [if_pos h2,h2,OB]
    simp
   ·rw [if_neg h2,Bool.eq_false_iff.2 h2,Bool.false_or];exact ih k (j+1) (by omega) hk
theorem aLz (t:List nJ) (f:nJ) (i:Nat) (hi:i<1000) (hl:f.f2.length≤4):∀ (d k j:Nat) (n:Int),j+d=f.f2.length→0≤n→n≤j →
  bC.l1 (k+d+1) t (i:Int) n (j:Int) f.f0 f.f1 f.f2=if kf (f.f2.drop j) n=0 then bC.l2 k t (i:Int) 0 f.f0 f.f1 f.f2 else some (kf (f.f2.drop j) n,(i:Int)):=by
 intro d
 induction d with
 | zero =>
  intro k j n hj h0 h1
  rw [bC.l1,if_neg (show ¬ (j:Int)<(f.f2.length:Int) by omega),List.drop_of_length_le (by omega),kf]
  by_cases h:n>1
  ·rw [if_pos h,if_pos h,OB];rfl
  ·rw [if_neg h,if_neg h,if_pos rfl]
 | succ d ih =>
  intro k j n hj h0 h1
  have hw:wrap64 ((j:Int)+1)=((j+1:Nat):Int):=by unfold wrap64;omega
  have hn:wrap64 (n+1)=n+1:=by unfold wrap64;omega
  rw [show k+(d+1)+1=(k+d+1)+1 from by omega,bC.l1,if_pos (show (j:Int)<(f.f2.length:Int) by omega),if_pos (show (0:Int)≤(j:Int) by omega),aIs,Option.bind_some,FU _ j (by omega),kf]
  generalize rd f.f2 (j:Int)=x
  by_cases hx:x<1∨6<x
  ·rw [if_pos hx,if_neg (by simp;omega),OB];rfl
  ·rw [if_neg hx,if_pos (by simp;omega),hw,hn]
   by_cases hz:x≥5
   ·rw [if_pos hz,if_pos (show 5≤x from hz)];exact ih k (j+1) (n+1) (by omega) (by omega) (by omega)
   ·rw [if_neg hz,if_neg (show ¬ 5≤x from hz)];exact ih k (j+1) n (by omega) (by omega) (by omega)
end Go.Proofs.Ytipjpdiianopcaa.Pure
namespace Go.Proofs.Ytipjpdiianopcaa.Pure
open Go.RowKit Go.Proofs.Ytipjpdiianopcaa.A Go.Proofs.Ytipjpdiianopcaa.Cv Go.Proofs.YtipjpdiianopcaaW.dF Go.Proofs.YtipjpdiianopcaaW.fO
set_option linter.unusedVariables false
theorem aEG (t:List nJ) (j:Nat) (h:j<t.length):aI t (j:Int)=t[j]:=by
 unfold aI
 rw [Int.toNat_natCast,List.getD_eq_getElem?_getD,Nr h]
 rfl
theorem aOk (t:List nJ) (f:nJ) (i:Nat) (hi:i≤t.length):∀ (d j:Nat),j+d=i→dup t f d j=((t.take i).drop j).any (Ij f):=by
 intro d
 induction d with
 | zero =>
  intro j hj
  rw [dup,List.drop_of_length_le (by rw [Fq];omega)]
  rfl
 | succ d ih =>
  intro j hj
  have hl:j<(t.take i).length:=by rw [Fq];omega
  rw [dup,ih (j+1) (by omega),List.drop_eq_getElem_cons hl,List.any_cons,aEG t j (by omega)]
  congr 2
  simp
theorem aLA (t:List nJ) (ht:t.length≤100) (N:Nat) (hN:∀ f ∈ t,f.f0.size≤N∧f.f2.length≤N) (hN2:N<1000000000000000):∀ (d k i:Nat),i+d=t.length→d*200+N+200<k→bC.l0 k t (i:Int)=some (tf t d i):=by
 intro d
 induction d with
 | zero =>
  intro k i hi hk
  obtain ⟨k,rfl⟩:∃ k',k=k'+1:=⟨k-1,by omega⟩
  rw [bC.l0,if_neg (show ¬ (i:Int)<(t.length:Int) by omega),tf]
 | succ d ih =>
  intro k i hi hk
  obtain ⟨k,rfl⟩:∃ k',k=k'+1:=⟨k-1,by omega⟩
  have hm:=hN _ (aBy t i (by omega))
  rw [bC.l0,if_pos (show (i:Int)<(t.length:Int) by omega),if_pos (show (0:Int)≤(i:Int) by omega),aIw _ (by omega) k (by omega),Option.bind_some,tf]
  generalize hf:aI t (i:Int)=f at hm ⊢
  unfold FX
  by_cases h1:OE f.f0=true
  ·rw [if_pos h1,if_pos h1,aIs,Option.bind_some]
   by_cases h2:f.f1<0∨255<f.f1
   ·rw [if_pos h2,if_neg (by simp;omega),OB,if_neg (by decide)];rfl
   ·rw [if_neg h2,if_pos (by simp;omega)]
    by_cases h3:f.f2.length>4
    ·rw [if_pos (show (f.f2.length:Int)>4 by omega),if_pos h3,OB,if_neg (by decide)];rfl
    ·rw [if_neg (show ¬ (f.f2.length:Int)>4 by omega),if_neg h3];obtain ⟨k1,rfl⟩:∃ k1,k=((k1+i+1)+f.f2.length+1):=⟨k-(i+f.f2.length+2),by omega⟩
     have e:=aLz t f i (by omega) (by omega) f.f2.length (k1+i+1) 0 0 (by omega) (by omega) (by omega);rw [show ((0:Nat):Int)=0 from rfl,List.drop_zero] at e;rw [e]
     by_cases h4:kf f.f2 0=0
     ·rw [if_pos h4,if_pos h4];have e2:=aLy t N (fun g hg=>(hN g hg).2) hN2 ht f i (by omega) i k1 0 (by omega) (by omega);rw [show ((0:Nat):Int)=0 from rfl] at e2;rw [e2,aOk t f i (by omega) i 0 (by omega),List.drop_zero]
      by_cases h5:(t.take i).any (Ij f)=true
      ·rw [if_pos h5,if_pos h5]
      ·rw [if_neg h5,if_neg h5];exact ih k1 (i+1) (by omega) (by omega)
     ·rw [if_neg h4,if_neg h4]
  ·rw [if_neg h1,if_neg h1,OB,if_neg (by decide)];rfl
theorem aOl (t:List nJ) (N:Nat) (hN:∀ f ∈ t,f.f0.size≤N∧f.f2.length≤N) (hN2:N<1000000000000000) (k:Nat) (hk:30000+N<k):bC.f k t=some (vS t):=by
 unfold bC.f vS
 by_cases h:t.length>100
 ·rw [if_pos (show (t.length:Int)>100 by omega),if_pos h,OB]
  rfl
 ·rw [if_neg (show ¬ (t.length:Int)>100 by omega),if_neg h]
  exact aLA t (by omega) N hN hN2 t.length k 0 (by omega) (by omega)
end Go.Proofs.Ytipjpdiianopcaa.Pure
namespace Go.Proofs.Ytipjpdiianopcaa.Pure
open Go.RowKit Go.Proofs.Ytipjpdiianopcaa.A Go.Proofs.Ytipjpdiianopcaa.Cv Go.Proofs.YtipjpdiianopcaaW.dF Go.Proofs.YtipjpdiianopcaaW.fO
set_option linter.unusedVariables false
def regs:List Int→Nat
 | []=>0
 | x :: r=>(if x=1∨x=2 then 1 else 0)+regs r
def uV (x:Int):Nat:=if x=3∨x=5 then 1 else if x=6 then 2 else if x=4 then 4 else 0
def JZ:List Int→Nat
 | []=>0
 | x :: r=>uV x+JZ r
theorem Xp:∀ l:List Int,regs l≤l.length
 | []=>Nat.le_refl _
 | x :: r=>by have:=Xp r;simp only [regs,List.length_cons];split <;> omega
theorem YL (x:Int):uV x≤4:=by unfold uV;split;omega;split;omega;split <;> omega
theorem aLj:∀ l:List Int,JZ l≤4*l.length
 | []=>Nat.le_refl _
 | x :: r=>by have:=aLj r;have:=YL x;simp only [JZ,List.length_cons];omega
def oH (l:List Int):Int:=((1+(regs l+1) / 2+JZ l:Nat):Int)
theorem aGQ (l:List Int) (hl:l.length<1000000):∀ (d k i n:Nat),i+d=l.length→d<k→n≤i→kF.l0 k (n:Int) l (l.length:Int) (i:Int)=some ((n+regs (l.drop i):Nat):Int):=by
 intro d
 induction d with
 | zero =>
  intro k i n hi hk hn
  obtain ⟨k,rfl⟩:∃ k',k=k'+1:=⟨k-1,by omega⟩
  rw [kF.l0,if_neg (show ¬ (i:Int)<(l.length:Int) by omega),List.drop_of_length_le (by omega),regs]
  rfl
 | succ d ih =>
  intro k i n hi hk hn
  obtain ⟨k,rfl⟩:∃ k',k=k'+1:=⟨k-1,by omega⟩
  have hw:wrap64 ((i:Int)+1)=((i+1:Nat):Int):=by unfold wrap64;omega
  have hn1:wrap64 ((n:Int)+1)=((n+1:Nat):Int):=by unfold wrap64;omega
  rw [kF.l0,if_pos (show (i:Int)<(l.length:Int) by omega),if_pos (show (0:Int)≤(i:Int) by omega),if_pos (show (i:Int)<(l.length:Int) by omega),FU l i (by omega),regs,hw,hn1]
  generalize rd l (i:Int)=x
  have h1:=ih k (i+1) (n+1) (by omega) (by omega) (by omega)
  have h0:=ih k (i+1) n (by omega) (by omega) (by omega)
  by_cases e1:x=1
  ·rw [if_pos e1,if_pos (Or.inl e1),h1];congr 2;omega
  ·rw [if_neg e1]
   by_cases e2:x=2
   ·rw [if_pos e2,if_pos (Or.inr e2),h1];congr 2;omega
   ·rw [if_neg e2,if_neg (by omega),h0];congr 2;omega
theorem PL (k:Nat) (hk:0<k) (x:Int):rV.f k x=some (uV x:Int):=by
 obtain ⟨k,rfl⟩:∃ k',k=k'+1:=⟨k-1,by omega⟩
 unfold rV.f uV
 by_cases e1:x=3
 ·subst e1;rfl
 ·rw [if_neg e1]
  by_cases e2:x=5
  ·subst e2;rfl
  ·rw [show (x==5)=false from beq_eq_false_iff_ne.2 e2,rV.j0,if_neg (show ¬ (false=true) by simp),if_neg (show ¬ (x=3∨x=5) by omega)]
   by_cases e3:x=6
   ·rw [if_pos e3,if_pos e3];rfl
   ·rw [if_neg e3,if_neg e3]
    by_cases e4:x=4
    ·rw [if_pos e4,if_pos e4];rfl
    ·rw [if_neg e4,if_neg e4];rfl
theorem aIx (l:List Int) (hl:l.length<1000000):∀ (d k i n:Nat),i+d=l.length→d+1<k→n≤1000000+4*i→mQ.l0 k (n:Int) l (l.length:Int) (i:Int)=some ((n+JZ (l.drop i):Nat):Int):=by
 intro d
 induction d with
 | zero =>
  intro k i n hi hk hn
  obtain ⟨k,rfl⟩:∃ k',k=k'+1:=⟨k-1,by omega⟩
  rw [mQ.l0,if_neg (show ¬ (i:Int)<(l.length:Int) by omega),List.drop_of_length_le (by omega),JZ]
  rfl
 | succ d ih =>
  intro k i n hi hk hn
  obtain ⟨k,rfl⟩:∃ k',k=k'+1:=⟨k-1,by omega⟩
  have hw:wrap64 ((i:Int)+1)=((i+1:Nat):Int):=by unfold wrap64;omega
  have hb:=YL (rd l (i:Int))
  have hn1:wrap64 ((n:Int)+(uV (rd l (i:Int)):Int))=((n+uV (rd l (i:Int)):Nat):Int):=by unfold wrap64;omega
  rw [mQ.l0,if_pos (show (i:Int)<(l.length:Int) by omega),if_pos (show (0:Int)≤(i:Int) by omega),if_pos (show (i:Int)<(l.length:Int) by omega),PL k (by omega),Option.bind_some,hw,hn1,ih k (i+1) _ (by omega) (by omega) (by omega),FU l i (by omega),JZ]
  congr 2
  omega
theorem Td (s:ByteArray) (c:Int) (l:List Int) (hl:l.length<1000000) (k:Nat) (hk:l.length+2<k):mQ.f k s c l=some (oH l):=by
 have hr:=Xp l
 unfold mQ.f kF.f
 have e:=aGQ l hl l.length k 0 0 (by omega) (by omega) (by omega)
 rw [show ((0:Nat):Int)=0 from rfl,List.drop_zero,Nat.zero_add] at e
 rw [e,Option.bind_some]
 have h1:wrap64 ((regs l:Int)+1)=((regs l+1:Nat):Int):=by unfold wrap64;omega
 have h2:Int.tdiv ((regs l+1:Nat):Int) 2=(((regs l+1) / 2:Nat):Int):=by rw [Int.tdiv_eq_ediv_of_nonneg (by omega)];omega
 have h3:wrap64 (1+wrap64 (((regs l+1) / 2:Nat):Int))=((1+(regs l+1) / 2:Nat):Int):=by unfold wrap64;omega
 rw [h1,h2,h3]
 have e2:=aIx l hl l.length k 0 (1+(regs l+1) / 2) (by omega) (by omega) (by omega)
 rw [show ((0:Nat):Int)=0 from rfl,List.drop_zero] at e2
 exact e2
end Go.Proofs.Ytipjpdiianopcaa.Pure
namespace Go.Proofs.Ytipjpdiianopcaa.Pure
open Go.RowKit Go.Proofs.Ytipjpdiianopcaa.A Go.Proofs.Ytipjpdiianopcaa.Cv Go.Proofs.YtipjpdiianopcaaW.dF Go.Proofs.YtipjpdiianopcaaW.fO
set_option linter.unusedVariables false
theorem aLB (k:Nat) (h n i:Int) (s:ByteArray) (c:Int) (l:List Int) (h0:i<(l.length:Int)) (h1:0≤i) :
  ∃ k',k≤k'∧bJ.l0 (k+3) h n i s c l=bJ.l0 k' (if rd l i=1∨rd l i=2 then wrap64 (h+1) else h) (if rd l i=3∨rd l i=5 then wrap64 (n+1) else if rd l i=6 then wrap64 (n+2) else if rd l i=4 then wrap64 (n+4) else n) (wrap64 (i+1)) s c l:=by
 rw [bJ.l0,if_pos h0,if_pos h1]
 generalize rd l i=x
 by_cases e1:x=1
 ·subst e1
  refine ⟨k+1,by omega,?_⟩
  rw [if_pos rfl,bJ.j1,if_pos (show ((1:Int)==1)=true from rfl),if_pos (Or.inl rfl),if_neg (by decide),if_neg (by decide),if_neg (by decide)]
 ·rw [if_neg e1]
  by_cases e2:x=2
  ·subst e2;refine ⟨k+1,by omega,?_⟩;rw [bJ.j1,if_pos (show ((2:Int)==2)=true from rfl),if_pos (Or.inr rfl),if_neg (by decide),if_neg (by decide),if_neg (by decide)]
  ·have b2:(x==2)=false:=beq_eq_false_iff_ne.2 e2;rw [b2,bJ.j1,if_neg (show ¬ (false=true) by simp),if_neg (show ¬ (x=1∨x=2) by omega)];clear b2 e1 e2;refine ⟨k,Nat.le_refl _,?_⟩
   by_cases e3:x=3
   ·subst e3;rw [if_pos rfl,bJ.j2,if_pos (show ((3:Int)==3)=true from rfl),if_pos (Or.inl rfl)]
   ·rw [if_neg e3]
    by_cases e5:x=5
    ·subst e5;rw [bJ.j2,if_pos (show ((5:Int)==5)=true from rfl),if_pos (Or.inr rfl)]
    ·have b5:(x==5)=false:=beq_eq_false_iff_ne.2 e5;rw [b5,bJ.j2,if_neg (show ¬ (false=true) by simp),if_neg (show ¬ (x=3∨x=5) by omega)]
     by_cases e6:x=6
     ·rw [if_pos e6,if_pos e6]
     ·rw [if_neg e6,if_neg e6]
      by_cases e4:x=4
      ·rw [if_pos e4,if_pos e4]
      ·rw [if_neg e4,if_neg e4]
theorem bIp (h:Nat) (hh:h≤1000000) (x:Int):(if x=1∨x=2 then wrap64 ((h:Int)+1) else (h:Int))=((h+(if x=1∨x=2 then 1 else 0):Nat):Int):=by
 by_cases e:x=1∨x=2
 ·rw [if_pos e,if_pos e];unfold wrap64;omega
 ·rw [if_neg e,if_neg e];rfl
theorem bIq (n:Nat) (hn:n≤10000000) (x:Int):(if x=3∨x=5 then wrap64 ((n:Int)+1) else if x=6 then wrap64 ((n:Int)+2) else if x=4 then wrap64 ((n:Int)+4) else (n:Int))=((n+uV x:Nat):Int):=by
 unfold uV
 by_cases e:x=3∨x=5
 ·rw [if_pos e,if_pos e];unfold wrap64;omega
 ·rw [if_neg e,if_neg e]
  by_cases e6:x=6
  ·rw [if_pos e6,if_pos e6];unfold wrap64;omega
  ·rw [if_neg e6,if_neg e6]
   by_cases e4:x=4
   ·rw [if_pos e4,if_pos e4];unfold wrap64;omega
   ·rw [if_neg e4,if_neg e4];rfl
theorem aDi (s:ByteArray) (c:Int) (l:List Int) (hl:l.length<1000000):∀ (d k i h n:Nat),i+d=l.length→3*d<k→h≤i→n≤1+4*i →
  bJ.l0 k (h:Int) (n:Int) (i:Int) s c l=some ((n+JZ (l.drop i)+(h+regs (l.drop i)) / 2+(h+regs (l.drop i))%2:Nat):Int):=by
 intro d
 induction d with
 | zero =>
  intro k i h n hi hk hh hn
  obtain ⟨k,rfl⟩:∃ k',k=k'+1:=⟨k-1,by omega⟩
  rw [bJ.l0,if_neg (show ¬ (i:Int)<(l.length:Int) by omega),List.drop_of_length_le (by omega),JZ,regs]
  rw [Int.tdiv_eq_ediv_of_nonneg (by omega),Int.tmod_eq_emod_of_nonneg (by omega)]
  congr 1
  unfold wrap64
  omega
 | succ d ih =>
  intro k i h n hi hk hh hn
  obtain ⟨k,rfl⟩:∃ k',k=k'+3:=⟨k-3,by omega⟩
  have hw:wrap64 ((i:Int)+1)=((i+1:Nat):Int):=by unfold wrap64;omega
  obtain ⟨k',hk',e⟩:=aLB k h n i s c l (by omega) (by omega)
  have hb:=YL (rd l (i:Int))
  have hr:(if rd l (i:Int)=1∨rd l (i:Int)=2 then 1 else 0)≤1:=by split <;> omega
  rw [e,bIp h (by omega),bIq n (by omega),hw,ih k' (i+1) _ _ (by omega) (by omega) (by omega) (by omega),FU l i (by omega)]
  simp only [regs,JZ]
  rw [Nat.add_assoc n,Nat.add_assoc h]
theorem aEH (s:ByteArray) (c:Int) (l:List Int) (hl:l.length<1000000) (k:Nat) (hk:3*l.length<k):bJ.f k s c l=some (oH l):=by
 unfold bJ.f
 have e:=aDi s c l hl l.length k 0 0 1 (by omega) (by omega) (by omega) (by omega)
 rw [show ((0:Nat):Int)=0 from rfl,show ((1:Nat):Int)=1 from rfl,List.drop_zero] at e
 rw [e]
 unfold oH
 congr 1
 omega
end Go.Proofs.Ytipjpdiianopcaa.Pure
namespace Go.Proofs.Ytipjpdiianopcaa.Pure
open Go.RowKit Go.Proofs.Ytipjpdiianopcaa.A Go.Proofs.Ytipjpdiianopcaa.Cv Go.Proofs.Ytipjpdiianopcaa.Cd Go.Proofs.Ytipjpdiianopcaa.Cf Go.Proofs.Ytipjpdiianopcaa.E Go.Proofs.YtipjpdiianopcaaW.dF Go.Proofs.YtipjpdiianopcaaW.fO
end Go.Proofs.Ytipjpdiianopcaa.Pure
namespace Go.Proofs.Ytipjpdiianopcaa.Pure
open Go.RowKit Go.Proofs.Ytipjpdiianopcaa.A Go.Proofs.Ytipjpdiianopcaa.Cv Go.Proofs.Ytipjpdiianopcaa.Cd Go.Proofs.Ytipjpdiianopcaa.E Go.Proofs.YtipjpdiianopcaaW.dF Go.Proofs.YtipjpdiianopcaaW.fO
set_option linter.unusedVariables false
def Valid (t:List nJ):Prop:=(vS t).1=0
theorem aQC (t:List nJ):∀ (d i:Nat),(tf t d i).1=0→tf t d i=(0,0)∧∀ j:Nat,i≤j→j<i+d→FX (aI t j).f0 (aI t j).f1 (aI t j).f2=0∧(t.take j).any (Ij (aI t j))=false:=by
 intro d
 induction d with
 | zero=>intro i _;exact ⟨rfl,fun j h1 h2=>by omega⟩
 | succ d ih =>
  intro i h
  rw [tf] at h ⊢
  by_cases h1:FX (aI t i).f0 (aI t i).f1 (aI t i).f2=0
  ·rw [if_pos h1] at h ⊢
   by_cases h2:(t.take i).any (Ij (aI t i))=true
   ·rw [if_pos h2] at h;exact absurd h (show ¬ ((7:Int)=0) by decide)
   ·rw [if_neg h2] at h ⊢;obtain ⟨e,hr⟩:=ih (i+1) h;refine ⟨e,fun j h3 h4=>?_⟩
    by_cases he:j=i
    ·subst he;exact ⟨h1,Bool.eq_false_iff.2 h2⟩
    ·exact hr j (by omega) (by omega)
  ·rw [if_neg h1] at h;exact absurd h h1
theorem Valid.eq {t:List nJ} (h:Valid t):vS t=(0,0):=by
 unfold Valid vS at *
 by_cases c:t.length>100
 ·rw [if_pos c] at h;exact absurd h (by decide)
 ·rw [if_neg c] at h ⊢;exact (aQC t _ _ h).1
theorem Valid.len {t:List nJ} (h:Valid t):t.length≤100:=by
 unfold Valid vS at h
 by_cases c:t.length>100
 ·rw [if_pos c] at h;exact absurd h (by decide)
 ·omega
theorem Valid.at {t:List nJ} (h:Valid t) (j:Nat) (hj:j<t.length):FX (aI t j).f0 (aI t j).f1 (aI t j).f2=0∧(t.take j).any (Ij (aI t j))=false:=by
 have hl:=h.len
 unfold Valid vS at h
 rw [if_neg (by omega)] at h
 exact (aQC t _ _ h).2 j (Nat.zero_le _) (by omega)
theorem aHf:∀ (l:List Int) (n:Int),kf l n=0→∀ x ∈ l,1≤x∧x≤6
 | [],_,_,_,hx=>by cases hx
 | y :: r,n,h,x,hx=>by
  rw [kf] at h
  by_cases c:y<1∨6<y
  ·rw [if_pos c] at h;exact absurd h (by decide)
  ·rw [if_neg c] at h
   rcases List.mem_cons.1 hx with hx|hx
   ·subst hx;omega
   ·exact aHf r _ h x hx
theorem aEI {s:ByteArray} {c:Int} {l:List Int} (h:FX s c l=0):OE s=true∧0≤c∧c≤255∧l.length≤4∧∀ x ∈ l,1≤x∧x≤6:=by
 unfold FX at h
 by_cases h1:OE s=true
 ·rw [if_pos h1] at h
  by_cases h2:c<0∨255<c
  ·rw [if_pos h2] at h;exact absurd h (by decide)
  ·rw [if_neg h2] at h
   by_cases h3:l.length>4
   ·rw [if_pos h3] at h;exact absurd h (by decide)
   ·rw [if_neg h3] at h;exact ⟨h1,by omega,by omega,by omega,aHf l 0 h⟩
 ·rw [if_neg h1] at h;exact absurd h (by decide)
theorem Valid.form {t:List nJ} (h:Valid t) (i:Int) (h0:0≤i) (h1:i<(t.length:Int)):OE (aI t i).f0=true∧0≤(aI t i).f1∧(aI t i).f1≤255∧(aI t i).f2.length≤4∧∀ x ∈ (aI t i).f2,1≤x∧x≤6:=by
 have h2:=(h.at i.toNat (by omega)).1
 rw [Int.toNat_of_nonneg h0] at h2
 exact aEI h2
def big (k:Nat):Prop:=140737488500000<k
theorem szN {t:List nJ} (hsz:∀ f ∈ t,NK.GL f):∀ f ∈ t,f.f0.size≤140737488351232∧f.f2.length≤140737488351232:=fun f hf=>⟨(hsz f hf).1,by have:=(hsz f hf).2;omega⟩
theorem aOh {t:List nJ} (hsz:∀ f ∈ t,NK.GL f) {k:Nat} (hk:big k):bC.f k t=some (vS t):=aOl t 140737488351232 (szN hsz) (by decide) k (by unfold big at hk;omega)
theorem MS {t:List nJ} (hsz:∀ f ∈ t,NK.GL f) {k:Nat} (hk:big k):jQ.f k t=some (vS t):=aEE t 140737488351232 (fun f hf=>(szN hsz f hf).1) (by decide) k (by unfold big at hk;omega)
theorem bEs {t:List nJ} (hsz:∀ f ∈ t,NK.GL f) {k:Nat} (hk:big k) (i:Int) (h:Valid t) (h0:0≤i) (h1:i<(t.length:Int)):lX.f k t i=some (oH (aI t i).f2,0,0):=by
 unfold lX.f
 have hf:=(h.form i h0 h1).2.2.2.1
 rw [MS hsz hk,Option.bind_some,h.eq,if_pos (by decide)]
 obtain ⟨k,rfl⟩:∃ k',k=k'+1:=⟨k-1,by unfold big at hk;omega⟩
 rw [if_neg (show ¬ i<0 by omega),kT (show ¬ i≥(t.length:Int) by omega),lX.j0,if_neg (by simp),if_neg (by simp),if_pos h0,if_pos h1,Td _ _ _ (by omega) k (by unfold big at hk;omega),Option.bind_some]
theorem aUk {t:List nJ} {k:Nat} (hk:big k) (i:Int) (h:Valid t) (h0:0≤i) (h1:i<(t.length:Int)):bJ.f k (aI t i).f0 (aI t i).f1 (aI t i).f2=some (oH (aI t i).f2):=by
 have hf:=(h.form i h0 h1).2.2.2.1
 exact aEH _ _ _ (by omega) k (by unfold big at hk;omega)
end Go.Proofs.Ytipjpdiianopcaa.Pure
namespace Go.Proofs.Ytipjpdiianopcaa.Pure
open Go.RowKit Go.Proofs.Ytipjpdiianopcaa.A Go.Proofs.Ytipjpdiianopcaa.Cv Go.Proofs.Ytipjpdiianopcaa.Cd Go.Proofs.Ytipjpdiianopcaa.E Go.Proofs.YtipjpdiianopcaaW.dF Go.Proofs.YtipjpdiianopcaaW.fO
set_option linter.unusedVariables false
theorem aUs (p:nJ→Bool) (t:List nJ):(Dn p t=-1∧∀ j:Nat,j<t.length→p (aI t j)=false)∨∃ m:Nat,Dn p t=(m:Int)∧m<t.length∧p (aI t m)=true∧∀ j:Nat,j<m→p (aI t j)=false:=by
 unfold Dn
 cases e:t.findIdx? p with
 | none =>
  refine .inl ⟨rfl,fun j hj=>?_⟩
  rw [List.findIdx?_eq_none_iff] at e
  exact e _ (aBy t j hj)
 | some m =>
  rw [List.findIdx?_eq_some_iff_getElem] at e
  obtain ⟨hm,hp,hn⟩:=e
  refine .inr ⟨m,rfl,hm,by rw [aEG t m hm];exact hp,fun j hj=>?_⟩
  have:=hn j hj
  rw [aEG t j (by omega)]
  simpa using this
end Go.Proofs.Ytipjpdiianopcaa.Pure
