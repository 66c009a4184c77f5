/- Words and contracts for the laws of encode. -/
import Derived.Test.YtipjpdiianopcaaqPpi
import Derived.Test.YtipjpdiianopcaaqPpf
import Derived.Test.YtipjpdiianopcaaqCdf
import Derived.Test.YtipjpdiianopcaaqCsi
set_option linter.unusedSimpArgs false
namespace Go.Proofs.Ytipjpdiianopcaa.Ppa
open Go.RowKit Go.Proofs.YtipjpdiianopcaaW.dF Go.Proofs.YtipjpdiianopcaaW.fO Go.Proofs.Ytipjpdiianopcaa.A Go.Proofs.Ytipjpdiianopcaa.E Go.Proofs.Ytipjpdiianopcaa.Pure Go.Proofs.Ytipjpdiianopcaa.Cl Go.Proofs.Ytipjpdiianopcaa.Cv Go.Proofs.Ytipjpdiianopcaa.Cby Go.Proofs.Ytipjpdiianopcaa.Cen
set_option linter.unusedVariables false
def good (t:List nJ) (c:List Int) (m:Nat):Prop :=
 (aI t m).f1=rd c 0∧oH (aI t m).f2≤(c.length:Int)∧(GM t m (guess c (aI t m).f2)).1=0∧EI (aI t m).f1 (aI t m).f2 (guess c (aI t m).f2)=c.take (oH (aI t m).f2).toNat
theorem bMJ (c l:List Int):(guess c l).length=l.length:=aLq c l _ _
theorem size_eq (l:List Int) (hl:∀ x ∈ l,1≤x∧x≤6):oH l=((1+(cnt l+1) / 2+JZ l:Nat):Int):=by
 unfold oH
 rw [Lu l hl]
theorem bMR {t:List nJ} (h:Valid t) (i j:Nat) (hij:i<j) (hj:j<t.length):(aI t i).f1≠(aI t j).f1:=by
 have h1:=(h.at j hj).2
 rw [List.any_eq_false] at h1
 have h2:=h1 (aI t i) (by
  rw [aEG t i (by omega)]
  exact List.mem_iff_getElem.2 ⟨i,by rw [Fq];omega,List.getElem_take⟩)
 intro e
 apply h2
 unfold Ij
 rw [Bool.or_eq_true]
 left
 rw [e]
 simp
theorem bNa {t:List nJ} (h:Valid t) (i j:Nat) (hi:i<t.length) (hj:j<t.length) (e:(aI t i).f1=(aI t j).f1):i=j:=by
 rcases Nat.lt_trichotomy i j with c|c|c
 ·exact absurd e (bMR h i j c hj)
 ·exact c
 ·exact absurd e.symm (bMR h j i c hi)
theorem bNh (c:List Int) (p:Int) (h0:0≤p) (h1:p<(c.length:Int)):rd (c.drop p.toNat) 0=rd c p:=by
 unfold rd
 rw [List.getD_eq_getElem?_getD,List.getD_eq_getElem?_getD,List.getElem?_drop]
 simp
theorem bNi {t:List nJ} (h:Valid t) (c:List Int) (hc:Bt c) (m:Nat) (hm:m<t.length) (h1:(aI t m).f1=rd c 0) (h2:oH (aI t m).f2≤(c.length:Int)) :
  good t c m↔(Cat.Oe (c.take (oH (aI t m).f2).toNat) (aI t m).f2=true∧Cat.aCT (c.take (oH (aI t m).f2).toNat) (aI t m).f2=false):=by
 have hf:=h.form (m:Int) (by omega) (by omega)
 have hl:=hf.2.2.2.2
 have hse:=size_eq _ hl
 have hpl:((c.take (oH (aI t m).f2).toNat).length:Int)=oH (aI t m).f2:=by rw [Fq];omega
 have hr0:rd (c.take (oH (aI t m).f2).toNat) 0=(aI t m).f1:=by
  rw [h1]
  exact Ko c _ 0 (by omega)
 have hcg:=aEy (c.take (oH (aI t m).f2).toNat) (aI t m).f2 (aI t m).f1 (hc.take _) hl hpl hr0
 rw [bAF _ _ (hc.take _) hl,aUi c _ hl,← hcg,aUi c _ hl]
 unfold good GM
 rw [if_pos ⟨by omega,by omega⟩,if_pos (bMJ _ _),aOe]
 exact ⟨fun hg=>⟨hg.2.2.1,hg.2.2.2⟩,fun hg=>⟨h1,h2,hg.1,hg.2⟩⟩
theorem aGM {t:List nJ} (h:Valid t) (code:List Int) (hc:Bt code) (p:Int) (h0:0≤p) (h1:p<(code.length:Int)) (m:Nat) (hm:m<t.length) (hg:good t (code.drop p.toNat) m) :
  Cat.atF t code p=((m:Int),guess (code.drop p.toNat) (aI t m).f2,oH (aI t m).f2,true):=by
 have hb:=vG hc p
 have hr:=bNh code p h0 h1
 have hw:wrap64 (rd code p)=rd code p:=wsm _ (by omega) (by omega)
 have hi:Dn (Cat.wR (rd code p)) t=(m:Int):=by
  rcases aUs (Cat.wR (rd code p)) t with ⟨_,e⟩|⟨m',e,hm',hp,_⟩
  ·have:=e m hm;unfold Cat.wR at this;rw [hw,aLd] at this;exact absurd (hg.1.trans hr) this
  ·unfold Cat.wR at hp;rw [hw] at hp;have e2:=bNa h m' m hm' hm ((eq_of_beq hp).trans (hr.symm.trans hg.1.symm));rw [e,e2]
 have hf:=h.form (m:Int) (by omega) (by omega)
 have hg2:=(bNi h _ (hc.drop _) m hm hg.1 hg.2.1).1 hg
 have hsl:=hg.2.1
 rw [Dw] at hsl
 unfold Cat.atF
 rw [hi,if_neg (by omega),if_neg (by omega)]
 unfold Cat.Og
 rw [if_neg (by rw [hg2.1];decide),if_neg (by rw [hg2.2];decide),aQz _ _ ((hc.drop _).take _) hf.2.2.2.2,aUi _ _ hf.2.2.2.2]
theorem aNS {t:List nJ} (h:Valid t) (code:List Int) (hc:Bt code) (p:Int) (h0:0≤p) (h1:p<(code.length:Int)) (hn:∀ j,j<t.length→¬ good t (code.drop p.toNat) j):Cat.atF t code p=Cat.nothing:=by
 have hb:=vG hc p
 have hr:=bNh code p h0 h1
 have hw:wrap64 (rd code p)=rd code p:=wsm _ (by omega) (by omega)
 unfold Cat.atF
 rcases aUs (Cat.wR (rd code p)) t with ⟨e,_⟩|⟨m,e,hm,hp,_⟩
 ·rw [e,if_pos (by decide)]
 ·unfold Cat.wR at hp
  rw [hw] at hp
  have e2:(aI t m).f1=rd (code.drop p.toNat) 0:=(eq_of_beq hp).trans hr.symm
  rw [e,if_neg (by omega)]
  by_cases c2:(code.length:Int)<p+oH (aI t m).f2
  ·rw [if_pos c2]
  ·have hg2:=bNi h _ (hc.drop p.toNat) m hm e2 (by rw [Dw];omega);rw [if_neg c2];unfold Cat.Og
   by_cases c3:Cat.Oe ((code.drop p.toNat).take (oH (aI t m).f2).toNat) (aI t m).f2=true
   ·rw [if_neg (by rw [c3];decide),if_pos]
    by_cases c4:Cat.aCT ((code.drop p.toNat).take (oH (aI t m).f2).toNat) (aI t m).f2=true
    ·exact c4
    ·exact absurd (hg2.2 ⟨c3,Bool.eq_false_iff.2 c4⟩) (hn m hm)
   ·rw [if_pos (Bool.eq_false_iff.2 c3)]
theorem at_k {t:List nJ} (h:Valid t) (code:List Int) (p:Int) (h0:0≤p) (h1:p<(code.length:Int)) (hl:code.length≤1500):CU.f t code p=some (Cat.atF t code p):=by
 unfold CU.f
 rw [if_pos]
 refine ⟨h0,h1,by omega,?_⟩
 rw [List.all_eq_true]
 intro f hf
 have:=aAm h f hf
 exact kindsOk_of this.1 this.2
theorem decode_bad {t:List nJ} (hsz:∀ f ∈ t,NK.GL f) {k:Nat} (hk:big k) (code:List Int) (p:Int) (h:¬ Valid t):fA.f k t code p=some (0,[],0,(vS t).1,(vS t).2):=by
 unfold Valid at h
 unfold fA.f
 rw [MS hsz hk,Option.bind_some,if_pos (by simp [h])]
theorem bMK {t:List nJ} (hsz:∀ f ∈ t,NK.GL f) {k:Nat} (hk:big k) (code:List Int) (p:Int) (h:Valid t) (hl:(code.length:Int)>1500):fA.f k t code p=some (0,[],0,2,-4):=by
 unfold fA.f
 rw [MS hsz hk,Option.bind_some,h.eq,if_neg (by decide),if_pos hl]
theorem bMO {t:List nJ} (hsz:∀ f ∈ t,NK.GL f) {k:Nat} (hk:big k) (code:List Int) (p:Int) (h:Valid t) (hl:¬ (code.length:Int)>1500) (hp:¬ (0≤p∧p<(code.length:Int))):fA.f k t code p=some (0,[],0,3,-5):=by
 obtain ⟨k,rfl⟩:∃ k',k=k'+1:=⟨k-1,by unfold big at hk;omega⟩
 unfold fA.f
 rw [MS hsz hk,Option.bind_some,h.eq,if_neg (by decide),if_neg hl]
 by_cases c:p<0
 ·rw [if_pos c,fA.j0,if_pos rfl]
 ·rw [if_neg c,fB (show p≥(code.length:Int) by omega),fA.j0,if_pos rfl]
theorem bNb {t:List nJ} (hsz:∀ f ∈ t,NK.GL f) {k:Nat} (hk:big k) (code:List Int) (p:Int) (h:Valid t) (hl:¬ (code.length:Int)>1500) (h0:0≤p) (h1:p<(code.length:Int)) :
  fA.f k t code p=(if (Cat.atF t code p).2.2.2=true then some ((Cat.atF t code p).1,(Cat.atF t code p).2.1,(Cat.atF t code p).2.2.1,0,0) else some (0,[],0,17,p)):=by
 obtain ⟨k,rfl⟩:∃ k',k=k'+1:=⟨k-1,by unfold big at hk;omega⟩
 unfold fA.f
 rw [MS hsz hk,Option.bind_some,h.eq,if_neg (by decide),if_neg hl,if_neg (by omega),kT (show ¬ p≥(code.length:Int) by omega),fA.j0,if_neg (by decide),at_k h code p h0 h1 (by omega),Option.bind_some]
theorem bMH {t:List nJ} (hsz:∀ f ∈ t,NK.GL f) {k:Nat} (hk:big k) (code:List Int) (hc:Bt code) (p:Int) (h:Valid t) (hl:¬ (code.length:Int)>1500) (h0:0≤p) (h1:p<(code.length:Int)) (m:Nat) (hm:m<t.length) (hg:good t (code.drop p.toNat) m) :
  fA.f k t code p=some ((m:Int),guess (code.drop p.toNat) (aI t m).f2,oH (aI t m).f2,0,0):=by
 rw [bNb hsz hk code p h hl h0 h1,aGM h code hc p h0 h1 m hm hg,if_pos rfl]
theorem bML {t:List nJ} (hsz:∀ f ∈ t,NK.GL f) {k:Nat} (hk:big k) (code:List Int) (hc:Bt code) (p:Int) (h:Valid t) (hl:¬ (code.length:Int)>1500) (h0:0≤p) (h1:p<(code.length:Int)) (hn:∀ j,j<t.length→¬ good t (code.drop p.toNat) j) :
  fA.f k t code p=some (0,[],0,17,p):=by
 rw [bNb hsz hk code p h hl h0 h1,aNS h code hc p h0 h1 hn,if_neg (by decide)]
theorem bNk {t:List nJ} (h:Valid t) (m:Nat) (hm:m<t.length) (args rest:List Int) (he:(GM t m args).1=0) :
  good t (EI (aI t m).f1 (aI t m).f2 args ++ rest) m∧guess (EI (aI t m).f1 (aI t m).f2 args ++ rest) (aI t m).f2=args:=by
 obtain ⟨_,_,_,hlen,ha⟩:=OC t m args he
 have hf:=h.form (m:Int) (by omega) (by omega)
 have hl:=hf.2.2.2.2
 have hcl:=aIt (aI t m).f1 (aI t m).f2 args hl hlen
 have htk:(EI (aI t m).f1 (aI t m).f2 args ++ rest).take (oH (aI t m).f2).toNat=EI (aI t m).f1 (aI t m).f2 args:=by
  rw [← hcl,Int.toNat_natCast,List.take_append_of_le_length (Nat.le_refl _),List.take_length]
 have hal:al (aI t m).f2 args=true:=(aOe _ _ 0).1 (by rw [ha])
 have hg:guess (EI (aI t m).f1 (aI t m).f2 args ++ rest) (aI t m).f2=args:=by
  rw [← aUi _ _ hl,htk]
  exact aUh _ _ _ ⟨hf.2.1,hf.2.2.1⟩ hl hlen hal
 refine ⟨⟨?_,?_,?_,?_⟩,hg⟩
 ·show (aI t m).f1=(aI t m).f1%256
  have:=hf.2.1
  have:=hf.2.2.1
  omega
 ·rw [List.length_append];omega
 ·rw [hg];exact he
 ·rw [hg,htk]
end Go.Proofs.Ytipjpdiianopcaa.Ppa
