/- Words and contracts for the laws of encode. -/
import Derived.Test.YtipjpdiianopcaaqPpd
set_option linter.unusedSimpArgs false
namespace Go.Proofs.Ytipjpdiianopcaa.Ppa
open Go.RowKit Go.Proofs.YtipjpdiianopcaaW.dF Go.Proofs.YtipjpdiianopcaaW.fO Go.Proofs.Ytipjpdiianopcaa.A Go.Proofs.Ytipjpdiianopcaa.Pure Go.Proofs.Ytipjpdiianopcaa.Cl Go.Proofs.Ytipjpdiianopcaa.Cby Go.Proofs.Ytipjpdiianopcaa.Cen
set_option linter.unusedVariables false
def Bt (l:List Int):Prop:=∀ x ∈ l,0≤x∧x<256
theorem vG {l:List Int} (h:Bt l) (i:Int):0≤rd l i∧rd l i<256:=by
 unfold rd
 by_cases c:i.toNat<l.length
 ·rw [List.getD_eq_getElem?_getD,Nr c];exact h _ (List.getElem_mem c)
 ·rw [List.getD_eq_getElem?_getD,List.getElem?_eq_none (by omega)];simp
def nib (part:List Int) (n:Nat):Int:=if n%2=0 then rd part ((1+n / 2:Nat):Int)%16 else rd part ((1+n / 2:Nat):Int) / 16
def sg (m n:Int):Int:=if n≥m then n-2*m else n
def bv (part:List Int) (k:Int) (o:Nat):Int :=
 if k=3∨k=5 then sg 128 (rd part (o:Int)) else if k=6 then sg 32768 (rd part (o:Int)+256*rd part ((o+1:Nat):Int))
 else rd part (o:Int)+256*rd part ((o+1:Nat):Int)+65536*rd part ((o+2:Nat):Int)+16777216*rd part ((o+3:Nat):Int)
def gs (part:List Int):List Int→Nat→Nat→List Int
 | [],_,_=>[]
 | k :: l,n,o=>if uV k=0 then nib part n :: gs part l (n+1) o else bv part k o :: gs part l n (o+uV k)
theorem lo4:∀ b:Fin 256,Go.bits .and .u8 (b.val:Int) 15=(b.val:Int)%16:=by decide +kernel
theorem bAE (b:Int) (h0:0≤b) (h1:b<256):Go.bits .and .u8 b 15=b%16:=by
 obtain ⟨m,rfl⟩:=Int.eq_ofNat_of_zero_le h0
 exact lo4 ⟨m,by omega⟩
theorem aDc (part:List Int) (hb:Bt part) (i:Int) (n:Nat) (k:Int):Cat.Oc part ⟨i,1+(n:Int) / 2,0,(n:Int)%2==1⟩ k=nib part n:=by
 have h:=vG hb (1+(n:Int) / 2)
 have e:((1+n / 2:Nat):Int)=1+(n:Int) / 2:=by omega
 unfold Cat.Oc nib
 rw [if_pos rfl,e]
 show (if ((n:Int)%2==1)=true then wrap64 (rd part (1+(n:Int) / 2) / 16) else wrap64 (Go.bits .and .u8 (rd part (1+(n:Int) / 2)) 15))=_
 generalize rd part (1+(n:Int) / 2)=b at h ⊢
 by_cases c:n%2=0
 ·rw [if_neg (by simp;omega),if_pos c,bAE b h.1 h.2]
  unfold wrap64;omega
 ·rw [if_pos (by simp;omega),if_neg c]
  unfold wrap64;omega
theorem aBv (a b i:Nat) (hb:b<2 ^ i) (h:2 ^ i*a+b<9223372036854775808):Go.bits .or .i64 (b:Int) ((2 ^ i*a:Nat):Int)=((2 ^ i*a+b:Nat):Int):=by
 show IntKind.i64.wrap ((BitVec.ofInt 64 (b:Int) ||| BitVec.ofInt 64 ((2 ^ i*a:Nat):Int)).toNat:Int)=_
 rw [BitVec.ofInt_natCast,BitVec.ofInt_natCast,BitVec.toNat_or,BitVec.toNat_ofNat,BitVec.toNat_ofNat,Nat.mod_eq_of_lt (show b<2 ^ 64 by omega),Nat.mod_eq_of_lt (show 2 ^ i*a<2 ^ 64 by omega),Nat.or_comm,← Nat.two_pow_add_eq_or_of_lt hb,IntKind.wrap_i64]
 omega
theorem aLp (b:Int) (i:Nat) (hi:i<4) (hb:0≤b∧b<256):shl .i64 (wrap64 b) (8*(i:Int))=b*256 ^ i:=by
 have hw:wrap64 b=b:=by unfold wrap64;omega
 have hm:min (8*(i:Int)).toNat IntKind.i64.bits=8*i:=by
  show min (8*(i:Int)).toNat 64=8*i
  omega
 unfold shl
 rw [hw,hm,IntKind.wrap_i64]
 have:i=0∨i=1∨i=2∨i=3:=by omega
 rcases this with rfl|rfl|rfl|rfl
 ·show (b*1+_)%_-_=b*1;omega
 ·show (b*256+_)%_-_=b*256;omega
 ·show (b*65536+_)%_-_=b*65536;omega
 ·show (b*16777216+_)%_-_=b*16777216;omega
theorem MV (acc b:Int) (i:Nat) (hi:i<4) (ha:0≤acc) (ha2:acc<256 ^ i) (hb:0≤b∧b<256):Go.bits .or .i64 acc (shl .i64 (wrap64 b) (8*(i:Int)))=acc+256 ^ i*b:=by
 rw [aLp b i hi hb]
 obtain ⟨m,rfl⟩:=Int.eq_ofNat_of_zero_le hb.1
 obtain ⟨a,rfl⟩:=Int.eq_ofNat_of_zero_le ha
 have:i=0∨i=1∨i=2∨i=3:=by omega
 rcases this with rfl|rfl|rfl|rfl
 ·have:=aBv m a 0 (by simp at ha2;omega) (by omega)
  simp at this ⊢
  rw [this];omega
 ·have:=aBv m a 8 (by simp at ha2;omega) (by omega)
  rw [show ((m:Int)*256 ^ 1)=((2 ^ 8*m:Nat):Int) by omega,this];omega
 ·have:=aBv m a 16 (by simp at ha2;omega) (by omega)
  rw [show ((m:Int)*256 ^ 2)=((2 ^ 16*m:Nat):Int) by omega,this];omega
 ·have:=aBv m a 24 (by simp at ha2;omega) (by omega)
  rw [show ((m:Int)*256 ^ 3)=((2 ^ 24*m:Nat):Int) by omega,this];omega
theorem YQ (part:List Int) (hb:Bt part) (i:Int) (o:Nat) (k:Int) (hk:1≤k∧k≤6) (h0:uV k≠0):Cat.Oc part ⟨i,(o:Int),(uV k:Int),false⟩ k=bv part k o:=by
 have b0:=vG hb (o:Int)
 have b1:=vG hb ((o+1:Nat):Int)
 have b2:=vG hb ((o+2:Nat):Int)
 have b3:=vG hb ((o+3:Nat):Int)
 unfold Cat.Oc
 rw [if_neg (show ¬ ((uV k:Nat):Int)=0 by omega)]
 show Cat.Yz k (uV k:Int) (Cat.MK part (o:Int) (uV k:Int).toNat 0 0)=_
 rw [Int.toNat_natCast]
 have s0:∀ x:Int,(o:Int)+((0:Nat):Int)=(o:Int):=fun _=>by omega
 have e1:(o:Int)+((1:Nat):Int)=((o+1:Nat):Int):=by omega
 have e2:(o:Int)+((2:Nat):Int)=((o+2:Nat):Int):=by omega
 have e3:(o:Int)+((3:Nat):Int)=((o+3:Nat):Int):=by omega
 have g1:Cat.MK part (o:Int) 1 0 0=rd part (o:Int):=by
  rw [Cat.MK,Cat.MK,s0 0,MV 0 _ 0 (by omega) (by omega) (by omega) b0];omega
 have g2:Cat.MK part (o:Int) 2 0 0=rd part (o:Int)+256*rd part ((o+1:Nat):Int):=by
  rw [Cat.MK,Cat.MK,Cat.MK,s0 0,e1,MV 0 _ 0 (by omega) (by omega) (by omega) b0,MV _ _ 1 (by omega) (by omega) (by omega) b1];omega
 have g4:Cat.MK part (o:Int) 4 0 0=rd part (o:Int)+256*rd part ((o+1:Nat):Int)+65536*rd part ((o+2:Nat):Int)+16777216*rd part ((o+3:Nat):Int):=by
  rw [Cat.MK,Cat.MK,Cat.MK,Cat.MK,Cat.MK,s0 0,e1,e2,e3,MV 0 _ 0 (by omega) (by omega) (by omega) b0,MV _ _ 1 (by omega) (by omega) (by omega) b1,MV _ _ 2 (by omega) (by omega) (by omega) b2,MV _ _ 3 (by omega) (by omega) (by omega) b3];omega
 unfold bv
 generalize rd part (o:Int)=v0 at *
 generalize rd part ((o+1:Nat):Int)=v1 at *
 generalize rd part ((o+2:Nat):Int)=v2 at *
 generalize rd part ((o+3:Nat):Int)=v3 at *
 have l8:shl .i64 1 (8*((1:Nat):Int)-1)=128:=by decide +kernel
 have l16:shl .i64 1 (8*((2:Nat):Int)-1)=32768:=by decide +kernel
 by_cases Jn:k=3∨k=5
 ·have hy:uV k=1:=by unfold uV;rw [if_pos Jn]
  rw [hy,g1,if_pos Jn]
  unfold Cat.Yz sg
  rw [if_neg (by omega),l8]
  split
  ·unfold wrap64;omega
  ·rfl
 ·rw [if_neg Jn]
  by_cases c6:k=6
  ·have hy:uV k=2:=by unfold uV;rw [if_neg Jn,if_pos c6]
   rw [hy,g2,if_pos c6];unfold Cat.Yz sg;rw [if_neg (by omega),l16]
   split
   ·unfold wrap64;omega
   ·rfl
  ·rw [if_neg c6];have c4:k=4:=by
    unfold uV at h0;rw [if_neg Jn,if_neg c6] at h0
    by_cases c4:k=4
    ·exact c4
    ·rw [if_neg c4] at h0;exact absurd rfl h0
   have hy:uV k=4:=by unfold uV;rw [if_neg Jn,if_neg c6,if_pos c4]
   rw [hy,g4];unfold Cat.Yz;rw [if_pos c4]
def m1 (part:List Int):List Int→Nat→List Int
 | [],_=>[]
 | k :: l,n=>if uV k=0 then nib part n :: m1 part l (n+1) else 0 :: m1 part l n
theorem aBw (p r:List Int) (k:Int):rd (p ++ k :: r) ((p.length:Nat):Int)=k:=by
 rw [rd,Int.toNat_natCast,List.getD_eq_getElem?_getD,List.getElem?_append_right (Nat.le_refl _),Nat.sub_self];rfl
theorem aHc (p r:List Int) (k v:Int):(p ++ k :: r).set p.length v=(p ++ [v]) ++ r:=by
 rw [List.set_append_right _ _ (Nat.le_refl _),Nat.sub_self,Gf];simp
theorem args1 (part:List Int) (hb:Bt part) (L:List Int):∀ (l pk pre:List Int) (n:Nat),L=pk ++ l→pk.length=pre.length →
  Cat.Dz part L (GK l pre.length n) (pre ++ List.replicate l.length 0)=pre ++ m1 part l n
 | [],pk,pre,n,hL,hp=>by simp [GK,m1,Cat.Dz]
 | k :: l,pk,pre,n,hL,hp=>by
  have hk:rd L ((pre.length:Nat):Int)=k:=by rw [hL,← hp];exact aBw pk l k
  rw [GK,m1]
  by_cases c:uV k=0
  ·rw [if_pos c,if_pos c];have e:Cat.Dz part L (⟨((pre.length:Nat):Int),1+(n:Int) / 2,0,(n:Int)%2==1⟩ :: GK l (pre.length+1) (n+1)) (pre ++ List.replicate (k :: l).length 0) =
    Cat.Dz part L (GK l (pre.length+1) (n+1)) ((pre ++ List.replicate (k :: l).length 0).set ((pre.length:Nat):Int).toNat (Cat.Oc part ⟨((pre.length:Nat):Int),1+(n:Int) / 2,0,(n:Int)%2==1⟩ (rd L ((pre.length:Nat):Int)))):=rfl
   rw [e,aDc part hb,Int.toNat_natCast,List.length_cons,List.replicate_succ,aHc];have h:=args1 part hb L l (pk ++ [k]) (pre ++ [nib part n]) (n+1) (by rw [hL];simp) (by simp [hp]);rw [List.length_append,List.length_cons,List.length_nil] at h;rw [h];simp
  ·rw [if_neg c,if_neg c,List.length_cons,List.replicate_succ];have h:=args1 part hb L l (pk ++ [k]) (pre ++ [0]) n (by rw [hL];simp) (by simp [hp]);rw [List.length_append,List.length_cons,List.length_nil,List.append_assoc] at h
   simpa using h
theorem args2 (part:List Int) (hb:Bt part) (L:List Int) (hL6:∀ x ∈ L,1≤x∧x≤6):∀ (l pk pre:List Int) (n o:Nat),L=pk ++ l→pk.length=pre.length →
  Cat.Dz part L (FT l pre.length o) (pre ++ m1 part l n)=pre ++ gs part l n o
 | [],pk,pre,n,o,hL,hp=>by simp [FT,m1,gs,Cat.Dz]
 | k :: l,pk,pre,n,o,hL,hp=>by
  have hk:rd L ((pre.length:Nat):Int)=k:=by rw [hL,← hp];exact aBw pk l k
  rw [FT,m1,gs]
  by_cases c:uV k=0
  ·rw [if_pos c,if_pos c,if_neg (by omega)];have h:=args2 part hb L hL6 l (pk ++ [k]) (pre ++ [nib part n]) (n+1) o (by rw [hL];simp) (by simp [hp]);rw [List.length_append,List.length_cons,List.length_nil,List.append_assoc] at h
   simpa using h
  ·rw [if_neg c,if_neg c,if_pos (by omega)];have e:Cat.Dz part L (⟨((pre.length:Nat):Int),(o:Int),(uV k:Int),false⟩ :: FT l (pre.length+1) (o+uV k)) (pre ++ 0 :: m1 part l n) =
    Cat.Dz part L (FT l (pre.length+1) (o+uV k)) ((pre ++ 0 :: m1 part l n).set ((pre.length:Nat):Int).toNat (Cat.Oc part ⟨((pre.length:Nat):Int),(o:Int),(uV k:Int),false⟩ (rd L ((pre.length:Nat):Int)))):=rfl
   rw [e,hk,YQ part hb _ o k (hL6 k (by rw [hL];simp)) c,Int.toNat_natCast,aHc];have h:=args2 part hb L hL6 l (pk ++ [k]) (pre ++ [bv part k o]) n (o+uV k) (by rw [hL];simp) (by simp [hp]);rw [List.length_append,List.length_cons,List.length_nil] at h;rw [h];simp
def guess (part l:List Int):List Int:=gs part l 0 (1+(cnt l+1) / 2)
theorem aQz (part l:List Int) (hb:Bt part) (hl:∀ x ∈ l,1≤x∧x≤6):Cat.Dz part l (lay l) (List.replicate l.length 0)=guess part l:=by
 have h1:=args1 part hb l l [] [] 0 rfl rfl
 have h2:=args2 part hb l hl l [] [] 0 (1+(cnt l+1) / 2) rfl rfl
 simp only [List.nil_append,List.length_nil] at h1 h2
 have e:Cat.Dz part l (lay l) (List.replicate l.length 0)=Cat.Dz part l (FT l 0 (1+(cnt l+1) / 2)) (Cat.Dz part l (GK l 0 0) (List.replicate l.length 0)):=by
  unfold Cat.Dz lay
  rw [List.foldl_append]
 rw [e,h1,h2]
 rfl
theorem aLq (part:List Int):∀ (l:List Int) (n o:Nat),(gs part l n o).length=l.length
 | [],_,_=>rfl
 | k :: l,n,o=>by
  rw [gs]
  split <;> rw [List.length_cons,aLq part l,List.length_cons]
def al:List Int→List Int→Bool
 | k :: l,a :: r=>Cat.Vt k a&&al l r
 | _,_=>true
theorem aOe:∀ (l args:List Int) (n:Nat),(Qe l args n).1=0↔al l args=true
 | [],_,_=>by simp [Qe,al]
 | k :: l,[],_=>by simp [Qe,al]
 | k :: l,a :: r,n=>by
  rw [Qe,al]
  by_cases c:Cat.Vt k a=true
  ·rw [if_pos c,c,Bool.true_and];exact aOe l r (n+1)
  ·rw [if_neg c,Bool.eq_false_iff.2 c,Bool.false_and]
   constructor
   ·intro h;exact absurd h (show ¬ ((3:Int)=0) by decide)
   ·intro h;cases h
def al1:List Int→List Int→Bool
 | k :: l,a :: r=>if uV k=0 then Cat.Vt k a&&al1 l r else al1 l r
 | _,_=>true
def al2:List Int→List Int→Bool
 | k :: l,a :: r=>if uV k=0 then al2 l r else Cat.Vt k a&&al2 l r
 | _,_=>true
theorem TJ:∀ (l a:List Int),al l a=(al1 l a&&al2 l a)
 | [],_=>rfl
 | k :: l,[]=>rfl
 | k :: l,a :: r=>by
  rw [al,al1,al2,TJ l r]
  split
  ·rw [Bool.and_assoc]
  ·rw [← Bool.and_assoc,Bool.and_comm (Cat.Vt k a),Bool.and_assoc]
theorem ok1 (part:List Int) (hb:Bt part) (L:List Int):∀ (l pk:List Int) (n o:Nat),L=pk ++ l →
  ((GK l pk.length n).all fun x=>Cat.Vt (rd L x.arg) (Cat.Oc part x (rd L x.arg)))=al1 l (gs part l n o)
 | [],pk,n,o,hL=>by simp [GK,al1]
 | k :: l,pk,n,o,hL=>by
  have hk:rd L ((pk.length:Nat):Int)=k:=by rw [hL];exact aBw pk l k
  rw [GK,gs]
  by_cases c:uV k=0
  ·have h:=ok1 part hb L l (pk ++ [k]) (n+1) o (by rw [hL];simp);rw [List.length_append,List.length_cons,List.length_nil] at h;rw [if_pos c,if_pos c,al1,if_pos c,List.all_cons,hk,aDc part hb,h]
  ·have h:=ok1 part hb L l (pk ++ [k]) n (o+uV k) (by rw [hL];simp);rw [List.length_append,List.length_cons,List.length_nil] at h;rw [if_neg c,if_neg c,al1,if_neg c,h]
theorem ok2 (part:List Int) (hb:Bt part) (L:List Int) (hL6:∀ x ∈ L,1≤x∧x≤6):∀ (l pk:List Int) (n o:Nat),L=pk ++ l →
  ((FT l pk.length o).all fun x=>Cat.Vt (rd L x.arg) (Cat.Oc part x (rd L x.arg)))=al2 l (gs part l n o)
 | [],pk,n,o,hL=>by simp [FT,al2]
 | k :: l,pk,n,o,hL=>by
  have hk:rd L ((pk.length:Nat):Int)=k:=by rw [hL];exact aBw pk l k
  rw [FT,gs]
  by_cases c:uV k=0
  ·have h:=ok2 part hb L hL6 l (pk ++ [k]) (n+1) o (by rw [hL];simp);rw [List.length_append,List.length_cons,List.length_nil] at h;rw [if_neg (by omega),if_pos c,al2,if_pos c,h]
  ·have h:=ok2 part hb L hL6 l (pk ++ [k]) n (o+uV k) (by rw [hL];simp);rw [List.length_append,List.length_cons,List.length_nil] at h;rw [if_pos (by omega),if_neg c,al2,if_neg c,List.all_cons,hk,YQ part hb _ o k (hL6 k (by rw [hL];simp)) c,h]
theorem bAF (part l:List Int) (hb:Bt part) (hl:∀ x ∈ l,1≤x∧x≤6):Cat.Oe part l=al l (guess part l):=by
 have h1:=ok1 part hb l l [] 0 (1+(cnt l+1) / 2) rfl
 have h2:=ok2 part hb l hl l [] 0 (1+(cnt l+1) / 2) rfl
 rw [List.length_nil] at h1 h2
 unfold Cat.Oe lay guess
 rw [List.all_append,h1,h2,TJ]
end Go.Proofs.Ytipjpdiianopcaa.Ppa
