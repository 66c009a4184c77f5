/- Words and contracts for the laws of encode. -/
import Derived.Test.YtipjpdiianopcaaqPpj
import Derived.Test.YtipjpdiianopcaaqBn3
set_option linter.unusedSimpArgs false
namespace Go.Proofs.Ytipjpdiianopcaa.Ppa
open Go.RowKit Go.Proofs.YtipjpdiianopcaaW.dF Go.Proofs.YtipjpdiianopcaaW.fO Go.Proofs.Ytipjpdiianopcaa.A Go.Proofs.Ytipjpdiianopcaa.E Go.Proofs.Ytipjpdiianopcaa.Pure Go.Proofs.Ytipjpdiianopcaa.Cl Go.Proofs.Ytipjpdiianopcaa.Cv Go.Proofs.Ytipjpdiianopcaa.Cby Go.Proofs.Ytipjpdiianopcaa.Cen
set_option linter.unusedVariables false
theorem bMS {l:List Int} (h:∀ x ∈ l,(Lit.int .u8 x).wf=true):Bt l:=fun x hx=>by
 have:=h x hx
 have h2:0≤x∧x≤255:=by simpa [Lit.wf,IntKind.min,IntKind.max,IntKind.signed,IntKind.bits] using this
 omega
theorem bNt {x:Int} (h:(Lit.int .i64 x).wf=true):-9223372036854775808≤x∧x≤9223372036854775807:=by
 simpa [Lit.wf,IntKind.min,IntKind.max,IntKind.signed,IntKind.bits] using h
theorem bMP (l:List Int):bF.f l l=some true:=by
 unfold bF.f
 simp
theorem bM5 {k:Nat} (hk:big k) (a b:Int) (l m:List Int) (hl:l.length<1000000):dQ.f k a l b m=some (decide (a=b)&&decide (l=m)):=by
 unfold dQ.f
 by_cases h:a=b
 ·rw [if_pos h,aLw l m (by omega) k (by unfold big at hk;omega),Option.bind_some,fB h,Bool.true_and]
 ·rw [if_neg h,kT h,Bool.false_and]
theorem bMQ {k:Nat} (hk:big k) (a:Int) (l:List Int) (hl:l.length<1000000):dQ.f k a l a l=some true:=by
 rw [bM5 hk a a l l hl,fB rfl,fB rfl]
 rfl
theorem bNc {t:List nJ} (hsz:∀ f ∈ t,NK.GL f) {k:Nat} (hk:big k) (code:List Int) (p:Int) (h:¬ Valid t):dD.f k t code p=some ((vS t).1,(vS t).2):=by
 obtain ⟨k,rfl⟩:∃ k',k=k'+2:=⟨k-2,by unfold big at hk;omega⟩
 unfold Valid at h
 unfold dD.f
 rw [aOh hsz hk,Option.bind_some,if_neg h,dD.j0,if_neg (by decide),dD.j1,if_neg h]
theorem bM8 {t:List nJ} (hsz:∀ f ∈ t,NK.GL f) {k:Nat} (hk:big k) (code:List Int) (p:Int) (h:Valid t) (hl:(code.length:Int)>1500):dD.f k t code p=some (2,-4):=by
 obtain ⟨k,rfl⟩:∃ k',k=k'+2:=⟨k-2,by unfold big at hk;omega⟩
 unfold dD.f
 rw [aOh hsz hk,Option.bind_some,h.eq,if_pos rfl,fB hl,dD.j0,if_pos rfl,OB,Option.bind_some,dD.j1,if_neg (by decide)]
theorem bNd {t:List nJ} (hsz:∀ f ∈ t,NK.GL f) {k:Nat} (hk:big k) (code:List Int) (p:Int) (h:Valid t) (hl:¬ (code.length:Int)>1500) (hp:¬ (0≤p∧p<(code.length:Int))):dD.f k t code p=some (3,-5):=by
 obtain ⟨k,rfl⟩:∃ k',k=k'+2:=⟨k-2,by unfold big at hk;omega⟩
 have hw:wrap64 ((code.length:Int)-1)=(code.length:Int)-1:=wsm _ (by omega) (by omega)
 have hd:(decide (0≤p)&&decide (p≤(code.length:Int)-1))=false:=by
  rw [Bool.eq_false_iff]
  simp only [ne_eq,Bool.and_eq_true,decide_eq_true_eq]
  omega
 unfold dD.f
 rw [aOh hsz hk,Option.bind_some,h.eq,if_pos rfl,kT hl,dD.j0,if_neg (by decide),dD.j1,if_pos rfl,hw,aIs,Option.bind_some,hd,if_neg (by decide),OB,Option.bind_some]
theorem bMY {t:List nJ} (hsz:∀ f ∈ t,NK.GL f) {k:Nat} (hk:big k) (code:List Int) (p:Int) (h:Valid t) (hl:¬ (code.length:Int)>1500) (h0:0≤p) (h1:p<(code.length:Int)):dD.f k t code p=some (0,0):=by
 obtain ⟨k,rfl⟩:∃ k',k=k'+2:=⟨k-2,by unfold big at hk;omega⟩
 have hw:wrap64 ((code.length:Int)-1)=(code.length:Int)-1:=wsm _ (by omega) (by omega)
 unfold dD.f
 rw [aOh hsz hk,Option.bind_some,h.eq,if_pos rfl,kT hl,dD.j0,if_neg (by decide),dD.j1,if_pos rfl,hw,aIs,Option.bind_some,fB h0,fB (show p≤(code.length:Int)-1 by omega),if_pos (show (true&&true)=true from rfl)]
theorem bNm:∀ (l a:List Int) (i:Nat) (v:Int),al l a=true→(∀ h:i<l.length,Cat.Vt l[i] v=true)→al l (a.set i v)=true
 | [],_,_,_,_,_=>rfl
 | k :: l,[],_,_,_,_=>rfl
 | k :: l,a :: r,0,v,h,hv=>by
  rw [al,Bool.and_eq_true] at h
  have hv0:Cat.Vt k v=true:=hv (by simp)
  rw [Gf,al,hv0,h.2]
  rfl
 | k :: l,a :: r,i+1,v,h,hv=>by
  rw [al,Bool.and_eq_true] at h
  rw [Jh,al,h.1,bNm l r i v h.2 (fun hi=>hv (by simpa using hi))]
  rfl
theorem bNf (t:List nJ) (m:Nat) (a:List Int) (i:Nat) (v:Int) (h:(GM t m a).1=0) (hi:i<(aI t m).f2.length) (hv:Cat.Vt (rd (aI t m).f2 (i:Int)) v=true):(GM t m (a.set i v)).1=0:=by
 obtain ⟨_,h0,h1,h2,h3⟩:=OC t m a h
 unfold GM
 rw [if_pos ⟨h0,h1⟩,if_pos (by rw [List.length_set];exact h2),aOe]
 refine bNm _ _ i v ((aOe _ _ 0).1 (by rw [h3])) (fun hh=>?_)
 rw [← Nu _ i hh]
 exact hv
theorem bMI {k:Nat} (t:List nJ) (code:List Int) (p arg v e1 e2:Int) (he:e1≠0) (h:fA.f k t code p=some (0,[],0,e1,e2)):eH.f k t code p arg v=some ([],e1,e2):=by
 unfold eH.f
 rw [h,Option.bind_some,if_pos (by simp [he])]
theorem bM3 {k:Nat} (hk:big k) (t:List nJ) (code:List Int) (p arg v:Int) (m n:Int) (G:List Int) (h:fA.f k t code p=some (m,G,n,0,0)) (ha:¬ (0≤arg∧arg<(G.length:Int))):eH.f k t code p arg v=some ([],3,-6):=by
 obtain ⟨k,rfl⟩:∃ k',k=k'+1:=⟨k-1,by unfold big at hk;omega⟩
 unfold eH.f
 rw [h,Option.bind_some,if_neg (by simp)]
 by_cases c:arg<0
 ·rw [if_pos c,eH.j0,if_pos rfl]
 ·rw [if_neg c,fB (show arg≥(G.length:Int) by omega),eH.j0,if_pos rfl]
theorem bMT {k:Nat} (hk:big k) (t:List nJ) (code:List Int) (p:Int) (arg:Nat) (v:Int) (m:Nat) (n:Int) (G:List Int) (h:fA.f k t code p=some ((m:Int),G,n,0,0)) (hm:m<t.length) (hG:G.length=(aI t m).f2.length) (ha:arg<G.length) (hv:Cat.Vt (rd (aI t m).f2 (arg:Int)) v=false) :
  eH.f k t code p (arg:Int) v=some ([],16,-7):=by
 obtain ⟨k,rfl⟩:∃ k',k=k'+1:=⟨k-1,by unfold big at hk;omega⟩
 unfold eH.f
 rw [h,Option.bind_some,if_neg (by simp),if_neg (show ¬ (arg:Int)<0 by omega),kT (show ¬ (arg:Int)≥(G.length:Int) by omega),eH.j0,if_neg (by decide),if_pos (show (0:Int)≤(m:Int) by omega),if_pos (show (m:Int)<(t.length:Int) by omega),if_pos (show (0:Int)≤(arg:Int) by omega),
  if_pos (show (arg:Int)<((aI t m).f2.length:Int) by omega),Cat.aP_,Option.bind_some,hv,if_neg (by decide)]
def bMG (code:List Int) (p:Int) (n:Int) (b:List Int):List Int:=code.take p.toNat ++ b ++ code.drop (p+n).toNat
theorem bMN {k:Nat} (hk:big k) {t:List nJ} (hv:Valid t) (code:List Int) (p:Int) (h0:0≤p) (hl:¬ (code.length:Int)>1500) (arg:Nat) (v:Int) (m:Nat) (G:List Int) (h:fA.f k t code p=some ((m:Int),G,oH (aI t m).f2,0,0)) (hm:m<t.length) (hi:(GM t m G).1=0) (hp:p+oH (aI t m).f2≤(code.length:Int)) (ha:arg<G.length) (hr:Cat.Vt (rd (aI t m).f2 (arg:Int)) v=true) :
  eH.f k t code p (arg:Int) v=some (bMG code p (oH (aI t m).f2) (EI (aI t m).f1 (aI t m).f2 (G.set arg v)),0,0):=by
 obtain ⟨k,rfl⟩:∃ k',k=k'+1:=⟨k-1,by unfold big at hk;omega⟩
 have hf:=hv.form (m:Int) (by omega) (by omega)
 have hG:=(OC t m G hi).2.2.2.1
 have hs:=size_eq _ hf.2.2.2.2
 have hb:=PL hv (m:Int) (G.set arg v) (bNf t m G arg v hi (by omega) hr)
 have hw:wrap64 (p+oH (aI t m).f2)=p+oH (aI t m).f2:=wsm _ (by omega) (by omega)
 have hcl:=aIt (aI t m).f1 (aI t m).f2 (G.set arg v) hf.2.2.2.2 (by rw [List.length_set];exact hG)
 unfold eH.f
 rw [h,Option.bind_some,if_neg (by simp),if_neg (show ¬ (arg:Int)<0 by omega),kT (show ¬ (arg:Int)≥(G.length:Int) by omega),eH.j0,if_neg (by decide),if_pos (show (0:Int)≤(m:Int) by omega),if_pos (show (m:Int)<(t.length:Int) by omega),if_pos (show (0:Int)≤(arg:Int) by omega),
  if_pos (show (arg:Int)<((aI t m).f2.length:Int) by omega),Cat.aP_,Option.bind_some,hr,if_pos rfl,if_pos (show (arg:Int)<(G.length:Int) by omega),if_pos h0,if_pos (show p≤(code.length:Int) by omega),Int.toNat_natCast,hb,Option.bind_some,hw,if_pos (show (0:Int)≤p+oH (aI t m).f2 by omega),if_pos hp]
 have hc:jG.f [code.take p.toNat,EI (aI t m).f1 (aI t m).f2 (G.set arg v),code.drop (p+oH (aI t m).f2).toNat]=some (bMG code p (oH (aI t m).f2) (EI (aI t m).f1 (aI t m).f2 (G.set arg v))):=by
  unfold jG.f
  have e:[code.take p.toNat,EI (aI t m).f1 (aI t m).f2 (G.set arg v),code.drop (p+oH (aI t m).f2).toNat].flatten=bMG code p (oH (aI t m).f2) (EI (aI t m).f1 (aI t m).f2 (G.set arg v)):=by
   unfold bMG
   simp
  rw [e,if_pos]
  refine ⟨?_,by simp⟩
  unfold bMG
  rw [List.length_append,List.length_append,Fq,Dw]
  have h4:=hf.2.2.2.1
  have h5:=ML _ h4
  omega
 rw [hc,Option.bind_some]
theorem bM4 {t:List nJ} {code:List Int} {p:Int} {m:Nat} (h0:0≤p) (h1:p<(code.length:Int)) (hg:good t (code.drop p.toNat) m):p+oH (aI t m).f2≤(code.length:Int):=by
 have:=hg.2.1
 rw [Dw] at this
 omega
theorem bNg {t:List nJ} (hv:Valid t) (code:List Int) (p:Int) (h0:0≤p) (h1:p<(code.length:Int)) (m:Nat) (hm:m<t.length) (hg:good t (code.drop p.toNat) m) :
  bMG code p (oH (aI t m).f2) (EI (aI t m).f1 (aI t m).f2 (guess (code.drop p.toNat) (aI t m).f2))=code:=by
 have hf:=hv.form (m:Int) (by omega) (by omega)
 have hs:=size_eq _ hf.2.2.2.2
 unfold bMG
 rw [hg.2.2.2,List.append_assoc,show (p+oH (aI t m).f2).toNat=p.toNat+(oH (aI t m).f2).toNat by omega,← List.drop_drop,List.take_append_drop,List.take_append_drop]
theorem bM6 (code:List Int) (p n:Int) (b:List Int) (h0:0≤p) (hn:0≤n) (h1:p+n≤(code.length:Int)) (hb:(b.length:Int)=n):(bMG code p n b).length=code.length:=by
 unfold bMG
 rw [List.length_append,List.length_append,Fq,Dw]
 omega
theorem bMZ (code:List Int) (p n:Int) (b:List Int) (h0:0≤p) (h1:p≤(code.length:Int)):(bMG code p n b).drop p.toNat=b ++ code.drop (p+n).toNat:=by
 unfold bMG
 rw [List.append_assoc,List.drop_append_of_le_length (by rw [Fq];omega),List.drop_eq_nil_of_le (by rw [Fq];omega),List.nil_append]
theorem bM_ (code:List Int) (p n:Int) (b d:List Int) (h0:0≤p) (hn:0≤n) (h1:p+n≤(code.length:Int)) (hb:(b.length:Int)=n):bMG (bMG code p n b) p n d=bMG code p n d:=by
 have e1:(bMG code p n b).take p.toNat=code.take p.toNat:=by
  unfold bMG
  rw [List.append_assoc,List.take_append_of_le_length (by rw [Fq];omega),List.take_take,Nat.min_self]
 have e2:(bMG code p n b).drop (p+n).toNat=code.drop (p+n).toNat:=by
  rw [show (p+n).toNat=p.toNat+n.toNat by omega,← List.drop_drop,bMZ code p n b h0 (by omega),show p.toNat+n.toNat=(p+n).toNat by omega,List.drop_append_of_le_length (by omega),List.drop_eq_nil_of_le (by omega),List.nil_append]
 show (bMG code p n b).take p.toNat ++ d ++ (bMG code p n b).drop (p+n).toNat=_
 rw [e1,e2]
 rfl
theorem bNj {code b:List Int} (p n:Int) (h:Bt code) (hb:Bt b):Bt (bMG code p n b):=Bt.app (Bt.app (h.take _) hb) (h.drop _)
end Go.Proofs.Ytipjpdiianopcaa.Ppa
