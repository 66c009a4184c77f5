/- Words and contracts for the laws. -/
import Derived.Test.YtipjpdiianopcaarAx5
import Derived.Test.YtipjpdiianopcaarAx8
import Derived.Test.YtipjpdiianopcaarAx6
import Derived.Test.YtipjpdiianopcaarAx9
import Derived.Test.YtipjpdiianopcaarCv
import Derived.Test.YtipjpdiianopcaarAx7
import Derived.Test.YtipjpdiianopcaarAx0
import Derived.Test.YtipjpdiianopcaarEx2
set_option linter.unusedVariables false
set_option linter.unusedSimpArgs false
namespace Go.Proofs.Ytipjpdiianopcaa.Pure
open Go.RowKit Go.Proofs.Ytipjpdiianopcaa.A Go.Proofs.YtipjpdiianopcaaW.aZ Go.Proofs.YtipjpdiianopcaaW.dQ
def letters (s:ByteArray):Nat→Nat→Bool
 | 0,_=>true
 | d+1,i=>decide (97≤bt s i)&&decide (bt s i≤122)&&letters s d (i+1)
def xG (s:ByteArray):Bool:=letters s s.size 0&&(decide (1≤s.size)&&decide (s.size≤16))
theorem OG (s:ByteArray) (i:Int):wrap64 (bt s i)=bt s i:=by have:=Lt s i;unfold wrap64;omega
theorem Ls (a b c:Int):dL.f a b c=some (decide (b≤a)&&decide (a≤c)):=by
 unfold dL.f
 by_cases h:a≥b
 ·rw [if_pos h,eH (show b≤a from h),Bool.true_and]
 ·rw [if_neg h,iE (show ¬ b≤a from h),Bool.false_and]
theorem FT (s:ByteArray) (hs:s.size≤1000000000000000):∀ (d k i:Nat),i+d=s.size→d<k→bW.l0 k s (i:Int)=some (letters s d i&&(decide (1≤s.size)&&decide (s.size≤16))):=by
 intro d
 induction d with
 | zero =>
  intro k i hi hk
  obtain ⟨k,rfl⟩:∃ k',k=k'+1:=⟨k-1,by omega⟩
  rw [bW.l0,if_neg (by omega),Ls]
  simp only [letters,Bool.true_and,Option.bind_some]
  congr 2 <;> exact decide_eq_decide.2 (by omega)
 | succ d ih =>
  intro k i hi hk
  obtain ⟨k,rfl⟩:∃ k',k=k'+1:=⟨k-1,by omega⟩
  have hw:wrap64 ((i:Int)+1)=((i+1:Nat):Int):=by unfold wrap64;omega
  rw [bW.l0,if_pos (by omega),if_pos (by omega),Ls,OG]
  simp only [letters,Option.bind_some]
  by_cases h1:(97:Int)≤bt s i
  ·by_cases h2:bt s i≤122
   ·rw [eH h1,eH h2,hw,ih k (i+1) (by omega) (by omega)];simp
   ·rw [eH h1,iE h2];simp
  ·rw [iE h1];simp
theorem Jd (s:ByteArray) (hs:s.size≤1000000000000000) (k:Nat) (hk:s.size<k):bW.f k s=some (xG s):=FT s hs s.size k 0 (by omega) hk
end Go.Proofs.Ytipjpdiianopcaa.Pure
namespace Go.Proofs.Ytipjpdiianopcaa.Pure
open Go.RowKit Go.Proofs.Ytipjpdiianopcaa.A Go.Proofs.YtipjpdiianopcaaW.aZ Go.Proofs.YtipjpdiianopcaaW.dQ
def kf:List Int→Int→Int
 | [],n=>if n>1 then 5 else 0
 | x :: r,n=>if x<1∨6<x then 4 else kf r (if 5≤x then n+1 else n)
theorem zQ (l:List Int) (i:Nat) (h:i<l.length):l.drop i=rd l (i:Int) :: l.drop (i+1):=by
 rw [List.drop_eq_getElem_cons h]
 congr 1
 unfold rd
 rw [Int.toNat_natCast,List.getD_eq_getElem?_getD,Eb h]
 rfl
def qK (s:ByteArray) (c:Int) (l:List Int):Int:=if xG s=true then (if c<0∨255<c then 3 else if l.length>4 then 2 else kf l 0) else 12
end Go.Proofs.Ytipjpdiianopcaa.Pure
namespace Go.Proofs.Ytipjpdiianopcaa.Pure
open Go.RowKit Go.Proofs.Ytipjpdiianopcaa.A Go.Proofs.Ytipjpdiianopcaa.Cv Go.Proofs.YtipjpdiianopcaaW.aZ Go.Proofs.YtipjpdiianopcaaW.dQ
def tf (t:List iJ):Nat→Nat→Int × Int
 | 0,_=>(0,0)
 | d+1,i=>if qK (aG t i).f0 (aG t i).f1 (aG t i).f2=0 then (if (t.take i).any (oU (aG t i))=true then (7,(i:Int)) else tf t d (i+1)) else (qK (aG t i).f0 (aG t i).f1 (aG t i).f2,(i:Int))
def qY (t:List iJ):Int × Int:=if t.length>100 then (2,-1) else tf t t.length 0
theorem Lu (t:List iJ) (i:Nat) (h:i<t.length):aG t (i:Int) ∈ t:=by
 unfold aG
 rw [Int.toNat_natCast,List.getD_eq_getElem?_getD,Eb h]
 exact List.getElem_mem h
end Go.Proofs.Ytipjpdiianopcaa.Pure
namespace Go.Proofs.Ytipjpdiianopcaa.Pure
open Go.RowKit Go.Proofs.Ytipjpdiianopcaa.A Go.Proofs.Ytipjpdiianopcaa.Cv Go.Proofs.YtipjpdiianopcaaW.aZ Go.Proofs.YtipjpdiianopcaaW.dQ
theorem Em (a b:List Int) (hl:a.length=b.length) (hn:a.length<1000000000000000):∀ (d k i:Nat),i+d=a.length→d<k→dU.l0 k a b (i:Int)=some (decide (a.drop i=b.drop i)):=by
 intro d
 induction d with
 | zero =>
  intro k i hi hk
  obtain ⟨k,rfl⟩:∃ k',k=k'+1:=⟨k-1,by omega⟩
  rw [dU.l0,if_neg (show ¬ (i:Int)<(a.length:Int) by omega),List.drop_of_length_le (by omega),List.drop_of_length_le (by omega)]
  rfl
 | succ d ih =>
  intro k i hi hk
  obtain ⟨k,rfl⟩:∃ k',k=k'+1:=⟨k-1,by omega⟩
  have hw:wrap64 ((i:Int)+1)=((i+1:Nat):Int):=by unfold wrap64;omega
  rw [dU.l0,if_pos (show (i:Int)<(a.length:Int) by omega),if_pos (show (0:Int)≤(i:Int) by omega),if_pos (show (i:Int)<(b.length:Int) by omega),zQ a i (by omega),zQ b i (by omega)]
  by_cases h:rd a (i:Int)=rd b (i:Int)
  ·rw [if_pos h,hw,ih k (i+1) (by omega) (by omega),h]
   simp
  ·rw [if_neg h]
   simp [h]
theorem LC (a b:List Int) (hn:a.length<1000000000000000) (k:Nat) (hk:a.length<k):dU.f k a b=some (decide (a=b)):=by
 unfold dU.f
 by_cases h:a.length=b.length
 ·rw [if_pos (show (a.length:Int)=(b.length:Int) by omega)]
  exact Em a b h hn a.length k 0 (by omega) hk
 ·rw [if_neg (show ¬ (a.length:Int)=(b.length:Int) by omega),iE (fun e=>h (by rw [e]))]
theorem zO (f g:iJ) (hn:f.f2.length<1000000000000000) (k:Nat) (hk:f.f2.length<k):fF.f k f.f0 f.f1 f.f2 g.f0 g.f1 g.f2=some (f.f0.toList==g.f0.toList&&decide (f.f2=g.f2)):=by
 unfold fF.f
 by_cases h:f.f0.toList=g.f0.toList
 ·rw [if_pos h,LC _ _ hn k hk]
  simp [h]
 ·rw [if_neg h]
  simp [h]
end Go.Proofs.Ytipjpdiianopcaa.Pure
namespace Go.Proofs.Ytipjpdiianopcaa.Pure
open Go.RowKit Go.Proofs.Ytipjpdiianopcaa.A Go.Proofs.Ytipjpdiianopcaa.Cv Go.Proofs.YtipjpdiianopcaaW.aZ Go.Proofs.YtipjpdiianopcaaW.dQ
def dup (t:List iJ) (f:iJ):Nat→Nat→Bool
 | 0,_=>false
 | d+1,j=>oU f (aG t j) || dup t f d (j+1)
theorem wP (x y:Int):bF.f x y=some (x,y):=rfl
theorem LD (f g:iJ):oU f g=(decide (g.f1=f.f1) || (g.f0.toList==f.f0.toList&&decide (g.f2=f.f2))):=by
 unfold oU
 have e1:(f.f1==g.f1)=decide (g.f1=f.f1):=by
  by_cases h:g.f1=f.f1
  ·rw [eH h,h];exact beq_self_eq_true _
  ·rw [iE h];exact beq_eq_false_iff_ne.2 (fun e=>h e.symm)
 have e2:(f.f0.toList==g.f0.toList)=(g.f0.toList==f.f0.toList):=by
  by_cases h:g.f0.toList=f.f0.toList
  ·rw [h]
  ·rw [beq_eq_false_iff_ne.2 h,beq_eq_false_iff_ne.2 (fun e=>h e.symm)]
 have e3:decide (f.f2=g.f2)=decide (g.f2=f.f2):=decide_eq_decide.2 ⟨Eq.symm,Eq.symm⟩
 rw [e1,e2,e3]
theorem LG (t:List iJ) (N:Nat) (hN:∀ f ∈ t,f.f2.length≤N) (YU:N<1000000000000000) (ht:t.length≤100) (f:iJ) (i:Nat) (hi:i<t.length):∀ (d k j:Nat),j+d=i→N<k →
  aH.l2 (k+d+1) t (i:Int) (j:Int) f.f0 f.f1 f.f2=if dup t f d j=true then some (7,(i:Int)) else aH.l0 k t ((i+1:Nat):Int):=by
 intro d
 induction d with
 | zero =>
  intro k j hj hk
  have hw:wrap64 ((i:Int)+1)=((i+1:Nat):Int):=by unfold wrap64;omega
  rw [aH.l2,if_neg (show ¬ (j:Int)<(i:Int) by omega),hw,dup,if_neg (by simp)]
 | succ d ih =>
  intro k j hj hk
  have hw:wrap64 ((j:Int)+1)=((j+1:Nat):Int):=by unfold wrap64;omega
  have hm:=hN _ (Lu t j (by omega))
  rw [show k+(d+1)+1=(k+d+1)+1 from by omega,aH.l2,if_pos (show (j:Int)<(i:Int) by omega),if_pos (show (0:Int)≤(j:Int) by omega),if_pos (show (j:Int)<(t.length:Int) by omega),dup,LD]
  by_cases h:(aG t j).f1=f.f1
  ·rw [if_pos h,wP]
   simp [h]
  ·rw [if_neg h,zO _ f (by omega) _ (by omega),Option.bind_some,iE h,Bool.false_or,hw]
   by_cases h2:((aG t j).f0.toList==f.f0.toList&&decide ((aG t j).f2=f.f2))=true
   ·rw [if_pos h2,h2,wP]
    simp
   ·rw [if_neg h2,Bool.eq_false_iff.2 h2,Bool.false_or];exact ih k (j+1) (by omega) hk
theorem LH (t:List iJ) (f:iJ) (i:Nat) (hi:i<1000) (hl:f.f2.length≤4):∀ (d k j:Nat) (n:Int),j+d=f.f2.length→0≤n→n≤j →
  aH.l1 (k+d+1) t (i:Int) n (j:Int) f.f0 f.f1 f.f2=if kf (f.f2.drop j) n=0 then aH.l2 k t (i:Int) 0 f.f0 f.f1 f.f2 else some (kf (f.f2.drop j) n,(i:Int)):=by
 intro d
 induction d with
 | zero =>
  intro k j n hj h0 h1
  rw [aH.l1,if_neg (show ¬ (j:Int)<(f.f2.length:Int) by omega),List.drop_of_length_le (by omega),kf]
  by_cases h:n>1
  ·rw [if_pos h,if_pos h,wP];rfl
  ·rw [if_neg h,if_neg h,if_pos rfl]
 | succ d ih =>
  intro k j n hj h0 h1
  have hw:wrap64 ((j:Int)+1)=((j+1:Nat):Int):=by unfold wrap64;omega
  have hn:wrap64 (n+1)=n+1:=by unfold wrap64;omega
  rw [show k+(d+1)+1=(k+d+1)+1 from by omega,aH.l1,if_pos (show (j:Int)<(f.f2.length:Int) by omega),if_pos (show (0:Int)≤(j:Int) by omega),Ls,Option.bind_some,zQ _ j (by omega),kf]
  generalize rd f.f2 (j:Int)=x
  by_cases hx:x<1∨6<x
  ·rw [if_pos hx,if_neg (by simp;omega),wP];rfl
  ·rw [if_neg hx,if_pos (by simp;omega),hw,hn]
   by_cases hz:x≥5
   ·rw [if_pos hz,if_pos (show 5≤x from hz)];exact ih k (j+1) (n+1) (by omega) (by omega) (by omega)
   ·rw [if_neg hz,if_neg (show ¬ 5≤x from hz)];exact ih k (j+1) n (by omega) (by omega) (by omega)
end Go.Proofs.Ytipjpdiianopcaa.Pure
namespace Go.Proofs.Ytipjpdiianopcaa.Pure
open Go.RowKit Go.Proofs.Ytipjpdiianopcaa.A Go.Proofs.Ytipjpdiianopcaa.Cv Go.Proofs.YtipjpdiianopcaaW.aZ Go.Proofs.YtipjpdiianopcaaW.dQ
set_option linter.unusedVariables false
theorem SA (t:List iJ) (j:Nat) (h:j<t.length):aG t (j:Int)=t[j]:=by
 unfold aG
 rw [Int.toNat_natCast,List.getD_eq_getElem?_getD,Eb h]
 rfl
theorem OH (t:List iJ) (f:iJ) (i:Nat) (hi:i≤t.length):∀ (d j:Nat),j+d=i→dup t f d j=((t.take i).drop j).any (oU f):=by
 intro d
 induction d with
 | zero =>
  intro j hj
  rw [dup,List.drop_of_length_le (by rw [KU];omega)]
  rfl
 | succ d ih =>
  intro j hj
  have hl:j<(t.take i).length:=by rw [KU];omega
  rw [dup,ih (j+1) (by omega),List.drop_eq_getElem_cons hl,List.any_cons,SA t j (by omega)]
  congr 2
  simp
theorem LJ (t:List iJ) (ht:t.length≤100) (N:Nat) (hN:∀ f ∈ t,f.f0.size≤N∧f.f2.length≤N) (YU:N<1000000000000000):∀ (d k i:Nat),i+d=t.length→d*200+N+200<k→aH.l0 k t (i:Int)=some (tf t d i):=by
 intro d
 induction d with
 | zero =>
  intro k i hi hk
  obtain ⟨k,rfl⟩:∃ k',k=k'+1:=⟨k-1,by omega⟩
  rw [aH.l0,if_neg (show ¬ (i:Int)<(t.length:Int) by omega),tf]
 | succ d ih =>
  intro k i hi hk
  obtain ⟨k,rfl⟩:∃ k',k=k'+1:=⟨k-1,by omega⟩
  have hm:=hN _ (Lu t i (by omega))
  rw [aH.l0,if_pos (show (i:Int)<(t.length:Int) by omega),if_pos (show (0:Int)≤(i:Int) by omega),Jd _ (by omega) k (by omega),Option.bind_some,tf]
  generalize hf:aG t (i:Int)=f at hm ⊢
  unfold qK
  by_cases h1:xG f.f0=true
  ·rw [if_pos h1,if_pos h1,Ls,Option.bind_some]
   by_cases h2:f.f1<0∨255<f.f1
   ·rw [if_pos h2,if_neg (by simp;omega),wP,if_neg (by decide)];rfl
   ·rw [if_neg h2,if_pos (by simp;omega)]
    by_cases h3:f.f2.length>4
    ·rw [if_pos (show (f.f2.length:Int)>4 by omega),if_pos h3,wP,if_neg (by decide)];rfl
    ·rw [if_neg (show ¬ (f.f2.length:Int)>4 by omega),if_neg h3];obtain ⟨k1,rfl⟩:∃ k1,k=((k1+i+1)+f.f2.length+1):=⟨k-(i+f.f2.length+2),by omega⟩
     have e:=LH t f i (by omega) (by omega) f.f2.length (k1+i+1) 0 0 (by omega) (by omega) (by omega);rw [show ((0:Nat):Int)=0 from rfl,List.drop_zero] at e;rw [e]
     by_cases h4:kf f.f2 0=0
     ·rw [if_pos h4,if_pos h4];have e2:=LG t N (fun g hg=>(hN g hg).2) YU ht f i (by omega) i k1 0 (by omega) (by omega);rw [show ((0:Nat):Int)=0 from rfl] at e2;rw [e2,OH t f i (by omega) i 0 (by omega),List.drop_zero]
      by_cases h5:(t.take i).any (oU f)=true
      ·rw [if_pos h5,if_pos h5]
      ·rw [if_neg h5,if_neg h5];exact ih k1 (i+1) (by omega) (by omega)
     ·rw [if_neg h4,if_neg h4]
  ·rw [if_neg h1,if_neg h1,wP,if_neg (by decide)];rfl
theorem OE (t:List iJ) (N:Nat) (hN:∀ f ∈ t,f.f0.size≤N∧f.f2.length≤N) (YU:N<1000000000000000) (k:Nat) (hk:30000+N<k):aH.f k t=some (qY t):=by
 unfold aH.f qY
 by_cases h:t.length>100
 ·rw [if_pos (show (t.length:Int)>100 by omega),if_pos h,wP]
  rfl
 ·rw [if_neg (show ¬ (t.length:Int)>100 by omega),if_neg h]
  exact LJ t (by omega) N hN YU t.length k 0 (by omega) (by omega)
end Go.Proofs.Ytipjpdiianopcaa.Pure
namespace Go.Proofs.Ytipjpdiianopcaa.Pure
open Go.RowKit Go.Proofs.Ytipjpdiianopcaa.A Go.Proofs.Ytipjpdiianopcaa.Cv Go.Proofs.YtipjpdiianopcaaW.aZ Go.Proofs.YtipjpdiianopcaaW.dQ
set_option linter.unusedVariables false
end Go.Proofs.Ytipjpdiianopcaa.Pure
namespace Go.Proofs.Ytipjpdiianopcaa.Pure
open Go.RowKit Go.Proofs.Ytipjpdiianopcaa.A Go.Proofs.Ytipjpdiianopcaa.Cv Go.Proofs.YtipjpdiianopcaaW.aZ Go.Proofs.YtipjpdiianopcaaW.dQ
set_option linter.unusedVariables false
end Go.Proofs.Ytipjpdiianopcaa.Pure
namespace Go.Proofs.Ytipjpdiianopcaa.Pure
open Go.RowKit Go.Proofs.Ytipjpdiianopcaa.A Go.Proofs.Ytipjpdiianopcaa.Cv Go.Proofs.Ytipjpdiianopcaa.Cd Go.Proofs.Ytipjpdiianopcaa.Cf Go.Proofs.Ytipjpdiianopcaa.E Go.Proofs.YtipjpdiianopcaaW.aZ Go.Proofs.YtipjpdiianopcaaW.dQ
theorem Ai:dG.f 40=some true:=by decide +kernel
theorem CY (k:Nat) (hk:40≤k):dG.f k=some true:=by
 obtain ⟨d,rfl⟩:∃ d,k=40+d:=⟨k-40,by omega⟩
 clear hk
 induction d with
 | zero=>exact Ai
 | succ d ih=>exact dG.mono (40+d) _ ih
end Go.Proofs.Ytipjpdiianopcaa.Pure
namespace Go.Proofs.Ytipjpdiianopcaa.Pure
open Go.RowKit Go.Proofs.Ytipjpdiianopcaa.A Go.Proofs.Ytipjpdiianopcaa.Cv Go.Proofs.Ytipjpdiianopcaa.Cd Go.Proofs.Ytipjpdiianopcaa.E Go.Proofs.YtipjpdiianopcaaW.aZ Go.Proofs.YtipjpdiianopcaaW.dQ
set_option linter.unusedVariables false
def Valid (t:List iJ):Prop:=(qY t).1=0
theorem Vx (t:List iJ):∀ (d i:Nat),(tf t d i).1=0→tf t d i=(0,0)∧∀ j:Nat,i≤j→j<i+d→qK (aG t j).f0 (aG t j).f1 (aG t j).f2=0∧(t.take j).any (oU (aG t j))=false:=by
 intro d
 induction d with
 | zero=>intro i _;exact ⟨rfl,fun j h1 h2=>by omega⟩
 | succ d ih =>
  intro i h
  rw [tf] at h ⊢
  by_cases h1:qK (aG t i).f0 (aG t i).f1 (aG t i).f2=0
  ·rw [if_pos h1] at h ⊢
   by_cases h2:(t.take i).any (oU (aG t i))=true
   ·rw [if_pos h2] at h;exact absurd h (show ¬ ((7:Int)=0) by decide)
   ·rw [if_neg h2] at h ⊢;obtain ⟨e,hr⟩:=ih (i+1) h;refine ⟨e,fun j h3 h4=>?_⟩
    by_cases he:j=i
    ·subst he;exact ⟨h1,Bool.eq_false_iff.2 h2⟩
    ·exact hr j (by omega) (by omega)
  ·rw [if_neg h1] at h;exact absurd h h1
theorem Valid.len {t:List iJ} (h:Valid t):t.length≤100:=by
 unfold Valid qY at h
 by_cases c:t.length>100
 ·rw [if_pos c] at h;exact absurd h (by decide)
 ·omega
theorem Valid.at {t:List iJ} (h:Valid t) (j:Nat) (hj:j<t.length):qK (aG t j).f0 (aG t j).f1 (aG t j).f2=0∧(t.take j).any (oU (aG t j))=false:=by
 have hl:=h.len
 unfold Valid qY at h
 rw [if_neg (by omega)] at h
 exact (Vx t _ _ h).2 j (Nat.zero_le _) (by omega)
theorem IC:∀ (l:List Int) (n:Int),kf l n=0→∀ x ∈ l,1≤x∧x≤6
 | [],_,_,_,hx=>by cases hx
 | y :: r,n,h,x,hx=>by
  rw [kf] at h
  by_cases c:y<1∨6<y
  ·rw [if_pos c] at h;exact absurd h (by decide)
  ·rw [if_neg c] at h
   rcases List.mem_cons.1 hx with hx|hx
   ·subst hx;omega
   ·exact IC r _ h x hx
theorem FU {s:ByteArray} {c:Int} {l:List Int} (h:qK s c l=0):xG s=true∧0≤c∧c≤255∧l.length≤4∧∀ x ∈ l,1≤x∧x≤6:=by
 unfold qK at h
 by_cases h1:xG s=true
 ·rw [if_pos h1] at h
  by_cases h2:c<0∨255<c
  ·rw [if_pos h2] at h;exact absurd h (by decide)
  ·rw [if_neg h2] at h
   by_cases h3:l.length>4
   ·rw [if_pos h3] at h;exact absurd h (by decide)
   ·rw [if_neg h3] at h;exact ⟨h1,by omega,by omega,by omega,IC l 0 h⟩
 ·rw [if_neg h1] at h;exact absurd h (by decide)
theorem Valid.form {t:List iJ} (h:Valid t) (i:Int) (h0:0≤i) (h1:i<(t.length:Int)):xG (aG t i).f0=true∧0≤(aG t i).f1∧(aG t i).f1≤255∧(aG t i).f2.length≤4∧∀ x ∈ (aG t i).f2,1≤x∧x≤6:=by
 have h2:=(h.at i.toNat (by omega)).1
 rw [Int.toNat_of_nonneg h0] at h2
 exact FU h2
end Go.Proofs.Ytipjpdiianopcaa.Pure
namespace Go.Proofs.Ytipjpdiianopcaa.Pure
open Go.RowKit Go.Proofs.Ytipjpdiianopcaa.A Go.Proofs.Ytipjpdiianopcaa.Cv Go.Proofs.Ytipjpdiianopcaa.Cd Go.Proofs.Ytipjpdiianopcaa.E Go.Proofs.YtipjpdiianopcaaW.aZ Go.Proofs.YtipjpdiianopcaaW.dQ
set_option linter.unusedVariables false
end Go.Proofs.Ytipjpdiianopcaa.Pure
