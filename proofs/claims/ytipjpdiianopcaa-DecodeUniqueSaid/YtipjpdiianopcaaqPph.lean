/- Words and contracts for the laws of encode. -/
import Derived.Test.YtipjpdiianopcaaqPpg
set_option linter.unusedSimpArgs false
namespace Go.Proofs.Ytipjpdiianopcaa.Ppa
open Go.RowKit Go.Proofs.YtipjpdiianopcaaW.dF Go.Proofs.YtipjpdiianopcaaW.fO Go.Proofs.Ytipjpdiianopcaa.A Go.Proofs.Ytipjpdiianopcaa.Pure Go.Proofs.Ytipjpdiianopcaa.Cl Go.Proofs.Ytipjpdiianopcaa.Cby Go.Proofs.Ytipjpdiianopcaa.Cen
set_option linter.unusedVariables false
def Qg (part:List Int) (n:Nat):Nat→List Int
 | 0=>[]
 | d+1=>nib part n :: Qg part (n+1) d
theorem aHd (part:List Int):∀ (l:List Int) (n o:Nat),(∀ x ∈ l,1≤x∧x≤6)→hv l (gs part l n o)=Qg part n (cnt l)
 | [],n,o,_=>by simp [hv,cnt,Qg]
 | k :: l,n,o,hk=>by
  have h2:=by0 k (hk k List.mem_cons_self)
  have hr:∀ x ∈ l,1≤x∧x≤6:=fun x hx=>hk x (List.mem_cons_of_mem _ hx)
  rw [gs,cnt]
  by_cases c:uV k=0
  ·rw [if_pos c,if_pos c,hv,if_pos (h2.1 c),aHd part l (n+1) o hr,Nat.add_comm 1,Qg]
  ·rw [if_neg c,if_neg c,hv,if_neg (fun h=>c (h2.2 h)),aHd part l n _ hr,Nat.zero_add]
theorem GZ (part:List Int) (o:Nat) (h:o<part.length):part.drop o=rd part (o:Int) :: part.drop (o+1):=by
 rw [Nu part o h];exact List.drop_eq_getElem_cons h
theorem bAG (part:List Int) (hb:Bt part) (k:Int) (o:Nat) (hk:1≤k∧k≤6) (h:o+uV k≤part.length):ob k (bv part k o)=if uV k=0 then [] else (part.drop o).take (uV k):=by
 have b0:=vG hb (o:Int)
 have b1:=vG hb ((o+1:Nat):Int)
 have b2:=vG hb ((o+2:Nat):Int)
 have b3:=vG hb ((o+3:Nat):Int)
 unfold ob bv
 by_cases Jn:k=3∨k=5
 ·have hy:uV k=1:=by unfold uV;rw [if_pos Jn]
  rw [hy] at h ⊢
  rw [if_pos Jn,if_pos Jn,if_neg (by decide),GZ part o (by omega),List.take_succ_cons,List.take_zero]
  have:sg 128 (rd part (o:Int))%256=rd part (o:Int):=by unfold sg;split <;> omega
  rw [this]
 ·rw [if_neg Jn,if_neg Jn]
  by_cases c6:k=6
  ·have hy:uV k=2:=by unfold uV;rw [if_neg Jn,if_pos c6]
   rw [hy] at h ⊢;rw [if_pos c6,if_pos c6,if_neg (by decide),GZ part o (by omega),GZ part (o+1) (by omega),List.take_succ_cons,List.take_succ_cons,List.take_zero];generalize rd part (o:Int)=v0 at *;generalize rd part ((o+1:Nat):Int)=v1 at *;have e1:sg 32768 (v0+256*v1)%256=v0:=by unfold sg;split <;> omega
   have e2:sg 32768 (v0+256*v1) / 256%256=v1:=by unfold sg;split <;> omega
   rw [e1,e2]
  ·rw [if_neg c6,if_neg c6]
   by_cases c4:k=4
   ·have hy:uV k=4:=by unfold uV;rw [if_neg Jn,if_neg c6,if_pos c4]
    rw [hy] at h ⊢;rw [if_pos c4,if_neg (by decide),GZ part o (by omega),GZ part (o+1) (by omega),GZ part (o+1+1) (by omega),GZ part (o+1+1+1) (by omega),List.take_succ_cons,List.take_succ_cons,List.take_succ_cons,List.take_succ_cons,List.take_zero];show _=[rd part (o:Int),rd part ((o+1:Nat):Int),rd part ((o+2:Nat):Int),rd part ((o+3:Nat):Int)];generalize rd part (o:Int)=v0 at *;generalize rd part ((o+1:Nat):Int)=v1 at *;generalize rd part ((o+2:Nat):Int)=v2 at *;generalize rd part ((o+3:Nat):Int)=v3 at *;have e1:(v0+256*v1+65536*v2+16777216*v3)%256=v0:=by omega
    have e2:(v0+256*v1+65536*v2+16777216*v3) / 256%256=v1:=by omega
    have e3:(v0+256*v1+65536*v2+16777216*v3) / 65536%256=v2:=by omega
    have e4:(v0+256*v1+65536*v2+16777216*v3) / 16777216%256=v3:=by omega
    rw [e1,e2,e3,e4]
   ·have hy:uV k=0:=by unfold uV;rw [if_neg Jn,if_neg c6,if_neg c4]
    rw [if_neg c4,if_pos hy]
theorem aEx (k a:Int) (h:uV k=0):ob k a=[]:=by
 rw [aHa,h];rfl
theorem aLr (part:List Int) (hb:Bt part):∀ (l:List Int) (n o:Nat),(∀ x ∈ l,1≤x∧x≤6)→o+JZ l≤part.length→rb l (gs part l n o)=(part.drop o).take (JZ l)
 | [],n,o,_,_=>by simp [rb,JZ]
 | k :: l,n,o,hk,ho=>by
  have hr:∀ x ∈ l,1≤x∧x≤6:=fun x hx=>hk x (List.mem_cons_of_mem _ hx)
  rw [JZ] at ho
  rw [gs,JZ]
  by_cases c:uV k=0
  ·rw [if_pos c,rb,aEx k _ c,aLr part hb l (n+1) o hr (by omega),c,Nat.zero_add];rfl
  ·rw [if_neg c,rb,bAG part hb k o (hk k List.mem_cons_self) (by omega),if_neg c,aLr part hb l n (o+uV k) hr (by omega),List.take_add,List.drop_drop]
theorem aHe (part:List Int) (hb:Bt part):∀ (d m n:Nat),d≤m→n%2=0→1+n / 2+(d+1) / 2≤part.length →
  (pr (Qg part n d)=(part.drop (1+n / 2)).take ((d+1) / 2)↔(d%2=1→rd part ((1+(n+d) / 2:Nat):Int) / 16=0))
 | 0,m,n,_,hn,hl=>by simp [Qg,pr]
 | 1,m,n,_,hn,hl=>by
  have b:=vG hb ((1+n / 2:Nat):Int)
  have e:1+(n+1) / 2=1+n / 2:=by omega
  rw [Qg,Qg,pr,GZ part (1+n / 2) (by omega),show (1+1) / 2=1 from rfl,List.take_succ_cons,List.take_zero,e]
  unfold nib
  rw [if_pos hn]
  generalize rd part ((1+n / 2:Nat):Int)=v at b ⊢
  constructor
  ·intro h _;have h2:=(List.cons.inj h).1;omega
  ·intro h;have h2:=h rfl
   congr 1
   omega
 | d+2,0,n,h,_,_=>by omega
 | d+2,m+1,n,h,hn,hl=>by
  have b:=vG hb ((1+n / 2:Nat):Int)
  have ih:=aHe part hb d m (n+2) (by omega) (by omega) (by omega)
  have e1:1+(n+2) / 2=1+n / 2+1:=by omega
  have e2:n+2+d=n+(d+2):=by omega
  have e3:(d+2+1) / 2=(d+1) / 2+1:=by omega
  rw [e1,e2] at ih
  rw [Qg,Qg,pr,GZ part (1+n / 2) (by omega),e3,List.take_succ_cons]
  have hv0:(nib part n+16*nib part (n+1))%256=rd part ((1+n / 2:Nat):Int):=by
   have e4:1+(n+1) / 2=1+n / 2:=by omega
   unfold nib;rw [if_pos hn,if_neg (by omega),e4];omega
  rw [hv0]
  rw [show (d+2)%2=d%2 by omega,← ih]
  constructor
  ·intro h;exact (List.cons.inj h).2
  ·intro h;rw [h]
theorem aDd (part l:List Int):Cat.aCT part l=false↔(regs l%2=1→rd part ((1+regs l / 2:Nat):Int) / 16=0):=by
 have e:((1+regs l / 2:Nat):Int)=1+(regs l:Int) / 2:=by omega
 unfold Cat.aCT
 rw [e]
 generalize rd part (1+(regs l:Int) / 2) / 16=v
 by_cases c:regs l%2=1
 ·rw [fB c,Bool.true_and]
  constructor
  ·intro h _;simpa using h
  ·intro h;simpa using h c
 ·rw [kT c,Bool.false_and]
  exact ⟨fun _ h=>absurd h c,fun _=>rfl⟩
theorem aEy (part l:List Int) (c:Int) (hb:Bt part) (hl:∀ x ∈ l,1≤x∧x≤6) (hn:(part.length:Int)=oH l) (hc:rd part 0=c):EI c l (guess part l)=part↔Cat.aCT part l=false:=by
 have hr:=Lu l hl
 have hlen:part.length=1+(cnt l+1) / 2+JZ l:=by unfold oH at hn;rw [hr] at hn;omega
 have hb0:=vG hb 0
 have h1:=aHd part l 0 (1+(cnt l+1) / 2) hl
 have h2:=aLr part hb l 0 (1+(cnt l+1) / 2) hl (by omega)
 have h3:=aHe part hb (cnt l) (cnt l) 0 (Nat.le_refl _) rfl (by omega)
 rw [Nat.zero_div,Nat.add_zero,Nat.zero_add,← hr] at h3
 rw [aDd,← h3]
 unfold EI guess
 rw [h1,h2,hr]
 have e0:part=rd part 0 :: ((part.drop 1).take ((cnt l+1) / 2) ++ (part.drop (1+(cnt l+1) / 2)).take (JZ l)):=by
  have:=GZ part 0 (by omega)
  rw [List.drop_zero] at this
  have e1:(part.drop (1+(cnt l+1) / 2)).take (JZ l)=(part.drop 1).drop ((cnt l+1) / 2):=by
   rw [List.drop_drop,List.take_of_length_le (by rw [Dw];omega)]
  rw [e1,List.take_append_drop]
  exact this
 have hcc:c%256=rd part 0:=by rw [hc] at hb0;omega
 rw [hcc]
 constructor
 ·intro h
  rw [e0] at h
  have h4:=(List.cons.inj h).2
  rw [← e0] at h4
  have hpl:=MR _ (Qg part 0 (cnt l)) (Nat.le_refl _)
  have hnl:∀ (d n:Nat),(Qg part n d).length=d:=by
   intro d
   induction d with
   | zero=>intro n;rfl
   | succ d ih=>intro n;rw [Qg,List.length_cons,ih]
  refine (List.append_inj h4 ?_).1
  rw [hpl,hnl,Fq,Dw]
  omega
 ·intro h
  rw [h]
  exact e0.symm
theorem aLs:∀ (m:Nat) (a b:List Int),a.length≤m→a.length=b.length→(∀ x ∈ a,0≤x∧x<16)→(∀ x ∈ b,0≤x∧x<16)→pr a=pr b→a=b
 | _,[],b,_,h,_,_,_=>by cases b with
  | nil=>rfl
  | cons x r=>simp at h
 | _,[x],b,_,h,ha,hb,e=>by
  match b,h,hb,e with
  | [y],_,hb,e =>
   have h1:=ha x (by simp);have h2:=hb y (by simp);rw [pr,pr] at e;have:=(List.cons.inj e).1
   congr 1
   omega
 | 0,x :: y :: a,b,h,_,_,_,_=>by simp at h
 | m+1,x :: y :: a,b,h,hl,ha,hb,e=>by
  match b,hl,hb,e with
  | x' :: y' :: b,hl,hb,e =>
   have h1:=ha x (by simp);have h2:=ha y (by simp);have h3:=hb x' (by simp);have h4:=hb y' (by simp);rw [pr,pr] at e;have e1:=(List.cons.inj e).1;have ih:=aLs m a b (by simp at h;omega) (by simpa using hl) (fun z hz=>ha z (by simp [hz])) (fun z hz=>hb z (by simp [hz])) (List.cons.inj e).2;have e2:x=x':=by omega
   have e3:y=y':=by omega
   rw [ih,e2,e3]
theorem aUf (k a b:Int) (hk:1≤k∧k≤6) (h0:uV k≠0) (ha:Cat.Vt k a=true) (hb:Cat.Vt k b=true) (e:ob k a=ob k b):a=b:=by
 unfold Cat.Vt Cat.YA at ha hb
 rw [Bool.and_eq_true] at ha hb
 have a1:=dU ha.1
 have a2:=dU ha.2
 have b1:=dU hb.1
 have b2:=dU hb.2
 unfold ob at e
 by_cases Jn:k=3∨k=5
 ·rw [if_neg (by omega),if_neg (by omega),if_neg (by omega),if_neg (by omega)] at a1 a2 b1 b2
  rw [if_pos Jn,if_pos Jn] at e
  have:=(List.cons.inj e).1
  dsimp only at a1 a2 b1 b2
  omega
 ·rw [if_neg Jn,if_neg Jn] at e
  by_cases c6:k=6
  ·rw [if_neg (by omega),if_neg (by omega),if_neg (by omega),if_pos c6] at a1 a2 b1 b2;rw [if_pos c6,if_pos c6] at e;have e1:=(List.cons.inj e).1;have e2:=(List.cons.inj (List.cons.inj e).2).1
   dsimp only at a1 a2 b1 b2
   omega
  ·rw [if_neg c6,if_neg c6] at e
   by_cases c4:k=4
   ·rw [if_neg (by omega),if_neg (by omega),if_pos c4] at a1 a2 b1 b2;rw [if_pos c4,if_pos c4] at e;have e1:=(List.cons.inj e).1;have e2:=(List.cons.inj (List.cons.inj e).2).1;have e3:=(List.cons.inj (List.cons.inj (List.cons.inj e).2).2).1;have e4:=(List.cons.inj (List.cons.inj (List.cons.inj (List.cons.inj e).2).2).2).1
    dsimp only at a1 a2 b1 b2
    omega
   ·exact absurd (by unfold uV;rw [if_neg Jn,if_neg c6,if_neg c4]) h0
theorem Vz:∀ (d i:Nat) (v:Int),(bytesOf v i d).length=d
 | 0,_,_=>rfl
 | d+1,i,v=>by rw [bytesOf,List.length_cons,Vz d]
theorem aEz (k a:Int):(ob k a).length=uV k:=by rw [aHa,Vz]
theorem aLt:∀ (l args:List Int),args.length=l.length→(rb l args).length=JZ l
 | [],_,_=>by simp [rb,JZ]
 | k :: l,[],h=>by simp at h
 | k :: l,a :: r,h=>by rw [rb,List.length_append,aEz,aLt l r (by simpa using h),JZ]
theorem UW:∀ (l a b:List Int),(∀ x ∈ l,1≤x∧x≤6)→a.length=l.length→b.length=l.length→al2 l a=true→al2 l b=true→hv l a=hv l b→rb l a=rb l b→a=b
 | [],a,b,_,ha,hb,_,_,_,_=>by
  rw [List.length_eq_zero_iff.1 ha,List.length_eq_zero_iff.1 hb]
 | k :: l,[],b,_,ha,_,_,_,_,_=>by simp at ha
 | k :: l,x :: a,[],_,_,hb,_,_,_,_=>by simp at hb
 | k :: l,x :: a,y :: b,hk,ha,hb,oa,ob2,h1,h2=>by
  have hk0:=hk k List.mem_cons_self
  have hr:∀ x ∈ l,1≤x∧x≤6:=fun x hx=>hk x (List.mem_cons_of_mem _ hx)
  have h3:=by0 k hk0
  rw [hv,hv] at h1
  rw [rb,rb] at h2
  rw [al2] at oa ob2
  by_cases c:uV k=0
  ·rw [if_pos c] at oa ob2;rw [if_pos (h3.1 c),if_pos (h3.1 c)] at h1;rw [aEx k x c,aEx k y c] at h2;have ih:=UW l a b hr (by simpa using ha) (by simpa using hb) oa ob2 (List.cons.inj h1).2 h2;rw [ih,(List.cons.inj h1).1]
  ·rw [if_neg c,Bool.and_eq_true] at oa ob2;have hn:¬ (k=1∨k=2):=fun h=>c (h3.2 h)
   rw [if_neg hn,if_neg hn] at h1;have h4:=List.append_inj h2 (by rw [aEz,aEz]);have ih:=UW l a b hr (by simpa using ha) (by simpa using hb) oa.2 ob2.2 h1 h4.2;rw [ih,aUf k x y hk0 c oa.1 ob2.1 h4.1]
theorem OD:∀ (l a:List Int),(∀ x ∈ l,1≤x∧x≤6)→al1 l a=true→∀ x ∈ hv l a,0≤x∧x<16
 | [],_,_,_,x,h=>by simp [hv] at h
 | k :: l,[],_,_,x,h=>by simp [hv] at h
 | k :: l,a :: r,hk,ho,x,h=>by
  have h3:=by0 k (hk k List.mem_cons_self)
  have hr:∀ x ∈ l,1≤x∧x≤6:=fun x hx=>hk x (List.mem_cons_of_mem _ hx)
  rw [hv] at h
  rw [al1] at ho
  by_cases c:k=1∨k=2
  ·rw [if_pos (h3.2 c),Bool.and_eq_true] at ho;rw [if_pos c] at h
   rcases List.mem_cons.1 h with h|h
   ·rw [h];exact aAo k a ho.1 c
   ·exact OD l r hr ho.2 x h
  ·rw [if_neg (fun hh=>c (h3.1 hh))] at ho;rw [if_neg c] at h;exact OD l r hr ho x h
theorem aIt (c:Int) (l args:List Int) (hk:∀ x ∈ l,1≤x∧x≤6) (h:args.length=l.length):((EI c l args).length:Int)=oH l:=by
 unfold EI oH
 rw [List.length_cons,List.length_append,MR _ _ (Nat.le_refl _),OA l args h hk,aLt l args h,Lu l hk]
 omega
theorem YR (c:Int) (l a b:List Int) (hk:∀ x ∈ l,1≤x∧x≤6) (ha:a.length=l.length) (hb:b.length=l.length) (oa:al2 l a=true) (ob2:al2 l b=true) (na:∀ x ∈ hv l a,0≤x∧x<16) (nb:∀ x ∈ hv l b,0≤x∧x<16)
  (e:EI c l a=EI c l b):a=b:=by
 have h:=(List.cons.inj e).2
 have h1:=List.append_inj h (by rw [MR _ _ (Nat.le_refl _),MR _ _ (Nat.le_refl _),OA l a ha hk,OA l b hb hk])
 exact UW l a b hk ha hb oa ob2 (aLs _ _ _ (Nat.le_refl _) (by rw [OA l a ha hk,OA l b hb hk]) na nb h1.1) h1.2
theorem aUq (c:Int) (l a b:List Int) (hk:∀ x ∈ l,1≤x∧x≤6) (ha:a.length=l.length) (hb:b.length=l.length) (oa:al l a=true) (ob2:al l b=true) (e:EI c l a=EI c l b):a=b:=by
 rw [TJ,Bool.and_eq_true] at oa ob2
 exact YR c l a b hk ha hb oa.2 ob2.2 (OD l a hk oa.1) (OD l b hk ob2.1) e
theorem aIu (part:List Int) (hb:Bt part) (n:Nat):0≤nib part n∧nib part n<16:=by
 have b:=vG hb ((1+n / 2:Nat):Int)
 unfold nib
 split <;> omega
theorem YS (part:List Int) (hb:Bt part):∀ (d n:Nat),∀ x ∈ Qg part n d,0≤x∧x<16
 | 0,_,x,h=>by simp [Qg] at h
 | d+1,n,x,h=>by
  rw [Qg] at h
  rcases List.mem_cons.1 h with h|h
  ·rw [h];exact aIu part hb n
  ·exact YS part hb d (n+1) x h
theorem aUg (part:List Int) (hb:Bt part) (k:Int) (o:Nat) (hk:1≤k∧k≤6) (h0:uV k≠0):Cat.Vt k (bv part k o)=true:=by
 have b0:=vG hb (o:Int)
 have b1:=vG hb ((o+1:Nat):Int)
 have b2:=vG hb ((o+2:Nat):Int)
 have b3:=vG hb ((o+3:Nat):Int)
 unfold Cat.Vt Cat.YA bv
 generalize rd part (o:Int)=v0 at *
 generalize rd part ((o+1:Nat):Int)=v1 at *
 generalize rd part ((o+2:Nat):Int)=v2 at *
 generalize rd part ((o+3:Nat):Int)=v3 at *
 by_cases Jn:k=3∨k=5
 ·rw [if_neg (show ¬ k=1 by omega),if_neg (show ¬ k=2 by omega),if_neg (show ¬ k=4 by omega),if_neg (show ¬ k=6 by omega),if_pos Jn]
  unfold sg
  rw [Bool.and_eq_true]
  constructor <;> (apply fB;dsimp only;split <;> omega)
 ·rw [if_neg Jn]
  by_cases c6:k=6
  ·rw [if_neg (show ¬ k=1 by omega),if_neg (show ¬ k=2 by omega),if_neg (show ¬ k=4 by omega),if_pos c6,if_pos c6];unfold sg;rw [Bool.and_eq_true]
   constructor <;> (apply fB;dsimp only;split <;> omega)
  ·rw [if_neg c6];have c4:k=4:=by
    unfold uV at h0;rw [if_neg Jn,if_neg c6] at h0
    by_cases c4:k=4
    ·exact c4
    ·rw [if_neg c4] at h0;exact absurd rfl h0
   rw [if_neg (show ¬ k=1 by omega),if_neg (show ¬ k=2 by omega),if_pos c4,Bool.and_eq_true]
   constructor <;> (apply fB;dsimp only;omega)
theorem aEA (part:List Int) (hb:Bt part):∀ (l:List Int) (n o:Nat),(∀ x ∈ l,1≤x∧x≤6)→al2 l (gs part l n o)=true
 | [],_,_,_=>rfl
 | k :: l,n,o,hk=>by
  have hr:∀ x ∈ l,1≤x∧x≤6:=fun x hx=>hk x (List.mem_cons_of_mem _ hx)
  rw [gs]
  by_cases c:uV k=0
  ·rw [if_pos c,al2,if_pos c];exact aEA part hb l _ _ hr
  ·rw [if_neg c,al2,if_neg c,aUg part hb k o (hk k List.mem_cons_self) c,Bool.true_and];exact aEA part hb l _ _ hr
theorem Bt.app {a b:List Int} (ha:Bt a) (hb:Bt b):Bt (a ++ b):=by
 intro x hx
 rcases List.mem_append.1 hx with h|h
 ·exact ha x h
 ·exact hb x h
theorem aQA:∀ (m:Nat) (h:List Int),h.length≤m→Bt (pr h)
 | _,[],_=>by intro x hx;simp [pr] at hx
 | _,[a],_=>by intro x hx;simp [pr] at hx;omega
 | 0,a :: b :: r,h=>by simp at h
 | m+1,a :: b :: r,h=>by
  intro x hx
  rw [pr] at hx
  rcases List.mem_cons.1 hx with e|e
  ·omega
  ·exact aQA m r (by simp at h;omega) x e
theorem YT:∀ (d i:Nat) (v:Int),Bt (bytesOf v i d)
 | 0,_,_=>by intro x hx;simp [bytesOf] at hx
 | d+1,i,v=>by
  intro x hx
  rw [bytesOf] at hx
  rcases List.mem_cons.1 hx with e|e
  ·omega
  ·exact YT d (i+1) v x e
theorem aQB:∀ (l args:List Int),Bt (rb l args)
 | [],_=>by intro x hx;simp [rb] at hx
 | k :: l,[]=>by intro x hx;simp [rb] at hx
 | k :: l,a :: r=>by
  rw [rb,aHa]
  exact Bt.app (YT _ _ _) (aQB l r)
theorem aLu (c:Int) (l args:List Int):Bt (EI c l args):=by
 intro x hx
 unfold EI at hx
 rcases List.mem_cons.1 hx with e|e
 ·omega
 ·exact Bt.app (aQA _ _ (Nat.le_refl _)) (aQB l args) x e
theorem aIv (c:Int) (l args:List Int) (hk:∀ x ∈ l,1≤x∧x≤6) (h:args.length=l.length) (hr:∀ x ∈ hv l args,0≤x∧x<16):Cat.aCT (EI c l args) l=false:=by
 rw [aDd]
 intro ho
 have hl:=OA l args h hk
 rw [Lu l hk] at ho ⊢
 obtain ⟨us,v,e⟩:∃ us v,hv l args=us ++ [v]:=by
  rcases List.eq_nil_or_concat (hv l args) with e|⟨us,v,e⟩
  ·rw [e] at hl;simp at hl;omega
  ·exact ⟨us,v,by simpa using e⟩
 have hu:us.length+1=cnt l:=by rw [← hl,e];simp
 have hv0:=hr v (by rw [e];simp)
 have hp:=Xu v us.length us (Nat.le_refl _) (by omega)
 have hq:=MR us.length us (Nat.le_refl _)
 have hi:(1+cnt l / 2:Nat)=(pr us).length+1:=by omega
 unfold EI
 rw [e,hp,hi,show (pr us ++ [v%256] ++ rb l args)=pr us ++ (v%256) :: rb l args by simp,aEw]
 omega
theorem aUh (c:Int) (l args:List Int) (hc:0≤c∧c≤255) (hk:∀ x ∈ l,1≤x∧x≤6) (h:args.length=l.length) (ha:al l args=true):guess (EI c l args) l=args:=by
 have hb:=aLu c l args
 have ha':=ha
 rw [TJ,Bool.and_eq_true] at ha'
 have hr:=OD l args hk ha'.1
 have aKG:=aIv c l args hk h hr
 have h0:rd (EI c l args) 0=c:=by
  show c%256=c
  omega
 have e:=(aEy (EI c l args) l c hb hk (aIt c l args hk h) h0).2 aKG
 refine YR c l _ _ hk (aLq _ _ _ _) h (aEA _ hb l _ _ hk) ha'.2 ?_ hr e
 unfold guess
 rw [aHd _ l _ _ hk]
 exact YS _ hb _ _
end Go.Proofs.Ytipjpdiianopcaa.Ppa
