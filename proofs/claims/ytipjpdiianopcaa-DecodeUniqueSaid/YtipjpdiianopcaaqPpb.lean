/- Words and contracts for the laws of encode. -/
import Derived.Test.YtipjpdiianopcaaqPpa
set_option linter.unusedSimpArgs false
namespace Go.Proofs.Ytipjpdiianopcaa.Ppa
open Go.RowKit Go.Proofs.YtipjpdiianopcaaW.dF Go.Proofs.YtipjpdiianopcaaW.fO Go.Proofs.Ytipjpdiianopcaa.A Go.Proofs.Ytipjpdiianopcaa.Pure Go.Proofs.Ytipjpdiianopcaa.Cl Go.Proofs.Ytipjpdiianopcaa.Cby
set_option linter.unusedVariables false
theorem aT6:∀ a:Fin 16,Go.bits .or .u8 (Go.bits .and .u8 0 240) ((a.val:Int)%256)=(a.val:Int)%256:=by decide +kernel
theorem aT7:∀ v a:Fin 16,Go.bits .or .u8 (Go.bits .and .u8 ((v.val:Int)%256) 15) ((wrap64 ((a.val:Int)*16))%256)=((v.val:Int)+16*(a.val:Int))%256:=by decide +kernel
theorem aT8 (a:Int) (h0:0≤a) (h1:a<16):Go.bits .or .u8 (Go.bits .and .u8 0 240) (a%256)=a%256:=by
 obtain ⟨n,rfl⟩:=Int.eq_ofNat_of_zero_le h0
 exact aT6 ⟨n,by omega⟩
theorem aT9 (v a:Int) (g0:0≤v) (g1:v<16) (h0:0≤a) (h1:a<16):Go.bits .or .u8 (Go.bits .and .u8 (v%256) 15) ((wrap64 (a*16))%256)=(v+16*a)%256:=by
 obtain ⟨n,rfl⟩:=Int.eq_ofNat_of_zero_le h0
 obtain ⟨m,rfl⟩:=Int.eq_ofNat_of_zero_le g0
 exact aT7 ⟨m,by omega⟩ ⟨n,by omega⟩
theorem MR:∀ (n:Nat) (h:List Int),h.length≤n→(pr h).length=(h.length+1) / 2
 | _,[],_=>by simp [pr]
 | _,[a],_=>by simp [pr]
 | 0,a :: b :: r,h=>by simp at h
 | n+1,a :: b :: r,h=>by
  have:=MR n r (by simp at h;omega)
  simp only [pr,List.length_cons,this]
  omega
theorem Xu (a:Int):∀ (n:Nat) (h:List Int),h.length≤n→h.length%2=0→pr (h ++ [a])=pr h ++ [a%256]
 | _,[],_,_=>by simp [pr]
 | _,[b],_,h=>by simp at h
 | 0,b :: d :: r,h,_=>by simp at h
 | n+1,b :: d :: r,h,h2=>by
  have:=Xu a n r (by simp at h;omega) (by simp at h2;omega)
  simp only [List.cons_append,pr,this]
theorem aLm (v a:Int):∀ (n:Nat) (h:List Int),h.length≤n→h.length%2=0→pr (h ++ [v] ++ [a])=pr h ++ [(v+16*a)%256]
 | _,[],_,_=>by simp [pr]
 | _,[b],_,h=>by simp at h
 | 0,b :: d :: r,h,_=>by simp at h
 | n+1,b :: d :: r,h,h2=>by
  have:=aLm v a n r (by simp at h;omega) (by simp at h2;omega)
  simp only [List.cons_append,pr,this]
def pad (T:Nat) (xs:List Int):List Int:=xs ++ List.replicate (T-xs.length) 0
theorem set_mid (c:Int) (xs zs:List Int) (y b:Int):(c :: (xs ++ y :: zs)).set (xs.length+1) b=c :: (xs ++ b :: zs):=by
 rw [Jh,List.set_append_right _ _ (Nat.le_refl _),Nat.sub_self,Gf]
theorem aEw (c:Int) (xs zs:List Int) (y:Int):rd (c :: (xs ++ y :: zs)) ((xs.length+1:Nat):Int)=y:=by
 rw [rd,Int.toNat_natCast,List.getD_cons_succ,List.getD_eq_getElem?_getD,List.getElem?_append_right (Nat.le_refl _),Nat.sub_self]
 rfl
theorem aOa (c:Int) (vs:List Int) (T:Nat) (i:Int) (a:Int) (hv:∀ v ∈ vs,0≤v∧v<16) (ha:0≤a∧a<16) (hT:(vs.length+2) / 2≤T) :
  VQ (c :: pad T (pr vs)) ⟨i,1+(vs.length:Int) / 2,0,(vs.length:Int)%2==1⟩ a=c :: pad T (pr (vs ++ [a])):=by
 have hl:=MR vs.length vs (Nat.le_refl _)
 unfold VQ
 rw [if_neg (show ¬ ((0:Int)>0) by decide)]
 by_cases hc:vs.length%2=0
 ·rw [if_neg (by simp;omega)]
  have ho:(1+(vs.length:Int) / 2)=(((pr vs).length+1:Nat):Int):=by omega
  show (c :: pad T (pr vs)).set (1+(vs.length:Int) / 2).toNat (Go.bits .or .u8 (Go.bits .and .u8 (rd (c :: pad T (pr vs)) (1+(vs.length:Int) / 2)) 240) (a%256))=_
  have e0:pad T (pr vs)=pr vs ++ 0 :: List.replicate (T-(pr vs).length-1) 0:=by
   unfold pad;rw [show T-(pr vs).length=(T-(pr vs).length-1)+1 by omega,List.replicate_succ]
   simp
  rw [ho,e0,aEw,Int.toNat_natCast,set_mid,aT8 a ha.1 ha.2,Xu a vs.length vs (Nat.le_refl _) hc]
  unfold pad
  simp
  rw [show T-((pr vs).length+1)=T-(pr vs).length-1 by omega]
 ·obtain ⟨us,v,rfl⟩:∃ us v,vs=us ++ [v]:=by
   rcases List.eq_nil_or_concat vs with h|⟨us,v,h⟩
   ·subst h;simp at hc
   ·exact ⟨us,v,by simpa using h⟩
  have hu:us.length%2=0:=by simp at hc;omega
  have hlu:=MR us.length us (Nat.le_refl _)
  have hvv:=hv v (by simp)
  rw [if_pos (by simp;omega)]
  have ho:(1+((us ++ [v]).length:Int) / 2)=(((pr us).length+1:Nat):Int):=by simp;omega
  show (c :: pad T (pr (us ++ [v]))).set (1+((us ++ [v]).length:Int) / 2).toNat (Go.bits .or .u8 (Go.bits .and .u8 (rd (c :: pad T (pr (us ++ [v]))) (1+((us ++ [v]).length:Int) / 2)) 15) ((wrap64 (a*16))%256))=_
  have e0:pad T (pr (us ++ [v]))=pr us ++ (v%256) :: List.replicate (T-(pr us).length-1) 0:=by
   unfold pad;rw [Xu v us.length us (Nat.le_refl _) hu]
   simp
   omega
  rw [ho,e0,aEw,Int.toNat_natCast,set_mid,aT9 v a hvv.1 hvv.2 ha.1 ha.2,aLm v a us.length us (Nat.le_refl _) hu]
  unfold pad
  simp
  omega
theorem by0 (k:Int) (h:1≤k∧k≤6):uV k=0↔(k=1∨k=2):=by
 unfold uV
 split
 ·omega
 ·split
  ·omega
  ·split <;> omega
theorem aIp (args l:List Int) (c:Int) (he:args.length=l.length) (hk:∀ x ∈ l,1≤x∧x≤6) (hr:∀ (i:Nat) (h:i<l.length),(l[i]=1∨l[i]=2)→0≤rd args i∧rd args i<16) :
  ∀ (d i:Nat) (vs:List Int) (T:Nat),i+d=l.length→(∀ v ∈ vs,0≤v∧v<16)→(vs.length+cnt (l.drop i)+1) / 2≤T →
   CO args (c :: pad T (pr vs)) (GK (l.drop i) i vs.length)=c :: pad T (pr (vs ++ hv (l.drop i) (args.drop i))):=by
 intro d
 induction d with
 | zero =>
  intro i vs T hi hv0 hT
  have e1:l.drop i=[]:=List.drop_eq_nil_of_le (by omega)
  rw [e1]
  simp [GK,CO,hv]
 | succ d ih =>
  intro i vs T hi hv0 hT
  have c1:i<l.length:=by omega
  have c2:i<args.length:=by omega
  have hki:=hk l[i] (List.getElem_mem c1)
  have hri:=hr i c1
  rw [Nu args i c2] at hri
  have h2:=Nu args i c2
  rw [drop_at l i c1,cnt] at hT
  rw [drop_at l i c1,drop_at args i c2,GK,hv]
  by_cases h:l[i]=1∨l[i]=2
  ·rw [if_pos ((by0 _ hki).2 h)] at hT ⊢;rw [if_pos h];have e:CO args (c :: pad T (pr vs)) (⟨(i:Int),1+(vs.length:Int) / 2,0,(vs.length:Int)%2==1⟩ :: GK (l.drop (i+1)) (i+1) (vs.length+1))=CO args (VQ (c :: pad T (pr vs)) ⟨(i:Int),1+(vs.length:Int) / 2,0,(vs.length:Int)%2==1⟩ (rd args (i:Int))) (GK (l.drop (i+1)) (i+1) (vs.length+1)):=rfl;rw [e,h2,aOa c vs T i args[i] hv0 (hri h) (by omega)];have h3:=ih (i+1) (vs ++ [args[i]]) T (by omega) (by
    intro v hvv
    rcases List.mem_append.1 hvv with hvv|hvv
    ·exact hv0 v hvv
    ·rw [List.mem_singleton.1 hvv];exact hri h) (by simp;omega)
   simp only [List.length_append,List.length_cons,List.length_nil] at h3;rw [h3]
   simp
  ·rw [if_neg (fun hh=>h ((by0 _ hki).1 hh))] at hT ⊢;rw [if_neg h];exact ih (i+1) vs T (by omega) hv0 (by omega)
def bytesOf (v:Int):Nat→Nat→List Int
 | _,0=>[]
 | i,d+1=>v / 256 ^ i%256 :: bytesOf v (i+1) d
theorem aHa (k a:Int):ob k a=bytesOf a 0 (uV k):=by
 unfold ob uV
 split
 ·simp [bytesOf]
 ·split
  ·simp [bytesOf]
  ·split <;> simp [bytesOf]
theorem aC_ (v o:Int):∀ (d i:Nat) (pre xs zs:List Int),xs.length=d→(pre.length:Int)=o+i→ZH v o d i (pre ++ (xs ++ zs))=pre ++ (bytesOf v i d ++ zs)
 | 0,i,pre,xs,zs,h,_=>by
  rw [List.length_eq_zero_iff.1 h,ZH,bytesOf]
 | d+1,i,pre,[],zs,h,_=>by simp at h
 | d+1,i,pre,x :: xs,zs,h,ho=>by
  have hs:(pre ++ (x :: xs ++ zs)).set (o+(i:Int)).toNat (v / 256 ^ i%256)=(pre ++ [v / 256 ^ i%256]) ++ (xs ++ zs):=by
   rw [← ho,Int.toNat_natCast,List.set_append_right _ _ (Nat.le_refl _),Nat.sub_self,List.cons_append,Gf]
   simp
  rw [ZH,hs,aC_ v o d (i+1) _ xs zs (by simpa using h) (by simp;omega),bytesOf]
  simp
theorem aIq (args l:List Int) (he:args.length=l.length):∀ (d i:Nat) (pre:List Int),i+d=l.length →
  CO args (pre ++ List.replicate (JZ (l.drop i)) 0) (FT (l.drop i) i pre.length)=pre ++ rb (l.drop i) (args.drop i):=by
 intro d
 induction d with
 | zero =>
  intro i pre hi
  have e1:l.drop i=[]:=List.drop_eq_nil_of_le (by omega)
  rw [e1]
  simp [FT,CO,rb,JZ]
 | succ d ih =>
  intro i pre hi
  have c1:i<l.length:=by omega
  have c2:i<args.length:=by omega
  have h2:=Nu args i c2
  rw [drop_at l i c1,drop_at args i c2,FT,rb,JZ,aHa]
  by_cases h:0<uV l[i]
  ·rw [if_pos h];have e:CO args (pre ++ List.replicate (uV l[i]+JZ (l.drop (i+1))) 0) (⟨(i:Int),(pre.length:Int),(uV l[i]:Int),false⟩ :: FT (l.drop (i+1)) (i+1) (pre.length+uV l[i])) =
    CO args (VQ (pre ++ List.replicate (uV l[i]+JZ (l.drop (i+1))) 0) ⟨(i:Int),(pre.length:Int),(uV l[i]:Int),false⟩ (rd args (i:Int))) (FT (l.drop (i+1)) (i+1) (pre.length+uV l[i])):=rfl
   have e2:VQ (pre ++ List.replicate (uV l[i]+JZ (l.drop (i+1))) 0) ⟨(i:Int),(pre.length:Int),(uV l[i]:Int),false⟩ args[i]=pre ++ (bytesOf args[i] 0 (uV l[i]) ++ List.replicate (JZ (l.drop (i+1))) 0):=by
    unfold VQ;rw [if_pos (show ((uV l[i]:Nat):Int)>0 by omega),← List.replicate_append_replicate];exact aC_ args[i] pre.length _ 0 pre _ _ (by simp) (by simp)
   have hb:∀ (d j:Nat) (v:Int),(bytesOf v j d).length=d:=by
    intro d
    induction d with
    | zero=>intro j v;rfl
    | succ d ih=>intro j v;rw [bytesOf,List.length_cons,ih]
   have h3:=ih (i+1) (pre ++ bytesOf args[i] 0 (uV l[i])) (by omega);rw [List.length_append,hb] at h3;rw [e,h2,e2,← List.append_assoc,h3]
   simp
  ·have hz:uV l[i]=0:=by omega
   rw [if_neg h,hz,Nat.zero_add]
   simpa [bytesOf] using ih (i+1) pre (by omega)
theorem OA:∀ (l args:List Int),args.length=l.length→(∀ x ∈ l,1≤x∧x≤6)→(hv l args).length=cnt l
 | [],_,_,_=>by simp [hv,cnt]
 | k :: l,[],h,_=>by simp at h
 | k :: l,a :: r,h,hk=>by
  have h1:=OA l r (by simpa using h) (fun x hx=>hk x (List.mem_cons_of_mem _ hx))
  have h2:=by0 k (hk k List.mem_cons_self)
  rw [hv,cnt]
  by_cases c:k=1∨k=2
  ·rw [if_pos c,if_pos (h2.2 c),List.length_cons,h1];omega
  ·rw [if_neg c,if_neg (fun hh=>c (h2.1 hh)),h1];omega
theorem Lu:∀ (l:List Int),(∀ x ∈ l,1≤x∧x≤6)→regs l=cnt l
 | [],_=>rfl
 | k :: l,hk=>by
  have h1:=Lu l (fun x hx=>hk x (List.mem_cons_of_mem _ hx))
  have h2:=by0 k (hk k List.mem_cons_self)
  rw [regs,cnt,h1]
  by_cases c:k=1∨k=2
  ·rw [if_pos c,if_pos (h2.2 c)]
  ·rw [if_neg c,if_neg (fun hh=>c (h2.1 hh))]
theorem aIr (f:nJ) (args:List Int) (he:args.length=f.f2.length) (hk:∀ x ∈ f.f2,1≤x∧x≤6) (hr:∀ (i:Nat) (h:i<f.f2.length),(f.f2[i]=1∨f.f2[i]=2)→0≤rd args i∧rd args i<16) :
  CO args (JX f) (lay f.f2)=EI f.f1 f.f2 args:=by
 have hc:=Lu f.f2 hk
 have hl:=OA f.f2 args he hk
 have hp:=MR _ (hv f.f2 args) (Nat.le_refl _)
 have e0:JX f=f.f1%256 :: pad ((cnt f.f2+1) / 2+JZ f.f2) (pr []):=by
  unfold JX oH pad
  rw [Int.toNat_natCast,hc,show 1+(cnt f.f2+1) / 2+JZ f.f2=((cnt f.f2+1) / 2+JZ f.f2)+1 by omega,List.replicate_succ,Gf]
  simp [pr]
 have h1:=aIp args f.f2 (f.f1%256) he hk hr f.f2.length 0 [] ((cnt f.f2+1) / 2+JZ f.f2) (by omega) (by simp) (by simp <;> omega)
 simp only [List.drop_zero,List.nil_append,List.length_nil] at h1
 have e1:f.f1%256 :: pad ((cnt f.f2+1) / 2+JZ f.f2) (pr (hv f.f2 args))=(f.f1%256 :: pr (hv f.f2 args)) ++ List.replicate (JZ f.f2) 0:=by
  unfold pad
  rw [hp,hl,show (cnt f.f2+1) / 2+JZ f.f2-(cnt f.f2+1) / 2=JZ f.f2 by omega]
  rfl
 have h2:=aIq args f.f2 he f.f2.length 0 (f.f1%256 :: pr (hv f.f2 args)) (by omega)
 rw [List.drop_zero,List.drop_zero,List.length_cons,hp,hl] at h2
 unfold lay
 have hsplit:CO args (JX f) (GK f.f2 0 0 ++ FT f.f2 0 (1+(cnt f.f2+1) / 2))=CO args (CO args (JX f) (GK f.f2 0 0)) (FT f.f2 0 (1+(cnt f.f2+1) / 2)):=by
  unfold CO
  rw [List.foldl_append]
 rw [hsplit,e0,h1,e1,Nat.add_comm 1,h2]
 rfl
end Go.Proofs.Ytipjpdiianopcaa.Ppa
