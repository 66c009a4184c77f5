/- Words and contracts for the laws of encode. -/
import Derived.Test.YtipjpdiianopcaaqPpn
import Derived.Test.YtipjpdiianopcaaqBn5
set_option linter.unusedSimpArgs false
namespace Go.Proofs.Ytipjpdiianopcaa.Pure
open Go.RowKit Go.Proofs.YtipjpdiianopcaaW.dF Go.Proofs.YtipjpdiianopcaaW.fO Go.Proofs.Ytipjpdiianopcaa.A Go.Proofs.Ytipjpdiianopcaa.E Go.Proofs.Ytipjpdiianopcaa.Cl Go.Proofs.Ytipjpdiianopcaa.Cen Go.Proofs.Ytipjpdiianopcaa.Ppa
set_option linter.unusedVariables false
theorem bNo (p:Int) (h0:0≤p) (code new:List Int) (hl:code.length≤1500) (hp:p+(new.length:Int)≤(code.length:Int)) (b:List Int):∀ (d k i:Nat),i+d=new.length→d<k →
  aW.l0 k p b (bMG code p (i:Int) (new.take i)) new (i:Int) 0 0=bF.f b (bMG code p (new.length:Int) new):=by
 intro d
 induction d with
 | zero =>
  intro k i hi hk
  obtain ⟨k,rfl⟩:∃ k',k=k'+1:=⟨k-1,by omega⟩
  have e:i=new.length:=by omega
  subst e
  rw [aW.l0,if_neg (by omega),if_pos rfl,List.take_length]
  cases bF.f b (bMG code p (new.length:Int) new) <;> rfl
 | succ d ih =>
  intro k i hi hk
  obtain ⟨k,rfl⟩:∃ k',k=k'+1:=⟨k-1,by omega⟩
  have hin:i<new.length:=by omega
  have w1:wrap64 (p+(i:Int))=p+(i:Int):=wsm _ (by omega) (by omega)
  have w2:wrap64 ((i:Int)+1)=((i+1:Nat):Int):=ws i 1 (by omega) (by omega)
  have hln:(bMG code p (i:Int) (new.take i)).length=code.length:=bM6 code p i (new.take i) h0 (by omega) (by omega) (by rw [Fq];omega)
  have hset:(bMG code p (i:Int) (new.take i)).set (p+(i:Int)).toNat (rd new (i:Int))=bMG code p ((i+1:Nat):Int) (new.take (i+1)):=by
   unfold bMG;have e1:(p+(i:Int)).toNat=(code.take p.toNat ++ new.take i).length:=by
    rw [List.length_append,Fq,Fq];omega
   have e2:code.drop (p+(i:Int)).toNat=rd code ((p.toNat+i:Nat):Int) :: code.drop (p+((i+1:Nat):Int)).toNat:=by
    rw [show (p+(i:Int)).toNat=p.toNat+i by omega,show (p+((i+1:Nat):Int)).toNat=p.toNat+i+1 by omega];exact GZ code (p.toNat+i) (by omega)
   rw [e2];generalize hq:code.take p.toNat ++ new.take i=q at e1 ⊢;rw [e1,aHc,← hq,Nu new i hin,List.take_succ_eq_append_getElem hin]
   simp
  rw [aW.l0,if_pos (by omega),if_pos (by omega),w1,if_pos (by omega),if_pos (by omega),hset,w2]
  exact ih k (i+1) (by omega) (by omega)
theorem bMV (t:List nJ) (hsz:∀ f ∈ t,NK.GL f) (code:List Int) (hb:Bt code) (p arg v:Int) (k:Nat) (hk:big k):aW.f k t code p arg v=some true:=by
 unfold aW.f
 rw [VU hk,Option.bind_some,if_pos rfl]
 by_cases hv:Valid t
 ·have ht:=hv.len
  by_cases hl:(code.length:Int)>1500
  ·rw [bMI t code p arg v 2 (-4) (by decide) (bMK hsz hk code p hv hl),Option.bind_some,bM8 hsz hk code p hv hl,Option.bind_some,if_neg (by decide),if_pos (by decide)];rfl
  ·by_cases hp:0≤p∧p<(code.length:Int)
   ·have hdl:0<(code.drop p.toNat).length:=by rw [Dw];omega
    have bNn:(code.drop p.toNat).length≤1000000:=by rw [Dw];omega
    by_cases hg:∃ m,m<t.length∧good t (code.drop p.toNat) m
    ·obtain ⟨m,hm,hg⟩:=hg;have hf:=hv.form (m:Int) (by omega) (by omega);have hd:=bMH hsz hk code hb p hv hl hp.1 hp.2 m hm hg;have hfit:=bM4 hp.1 hp.2 hg;have hins:=hg.2.2.1;have hdec:=bMX hv _ (hb.drop p.toNat) hdl bNn k hk m hm hg;have hfa:=bMY hsz hk code p hv hl hp.1 hp.2;have hgl:=bMJ (code.drop p.toNat) (aI t m).f2;generalize guess (code.drop p.toNat) (aI t m).f2=G at hd hins hdec hgl;have h4:=hf.2.2.2.1;have hw:wrap64 ((G.length:Int)-1)=(G.length:Int)-1:=wsm _ (by omega) (by omega)
     by_cases ha:0≤arg∧arg<(G.length:Int)
     ·obtain ⟨a,rfl⟩:=Int.eq_ofNat_of_zero_le ha.1;have bNl:(decide ((0:Int)≤(a:Int))&&decide ((a:Int)≤(G.length:Int)-1))=true:=by
       rw [fB ha.1,fB (show (a:Int)≤(G.length:Int)-1 by omega)];rfl
      by_cases hr:Cat.Vt (rd (aI t m).f2 (a:Int)) v=true
      ·have hset:=bNf t m G a v hins (by omega) hr;have bNx:=aIt (aI t m).f1 (aI t m).f2 (G.set a v) hf.2.2.2.2 (by rw [List.length_set];exact hgl);have hcode:=aT5 (aI t m).f0 (aI t m).f1 (aI t m).f2 (G.set a v) (by rw [List.length_set];exact hgl) (by omega) k (by unfold big at hk;omega);have hcopy:iZ.f code=some (bMG code p ((0:Nat):Int) ((EI (aI t m).f1 (aI t m).f2 (G.set a v)).take 0)):=by
        unfold iZ.f bMG;rw [if_pos (by simp;omega)];rw [List.take_zero,List.append_nil,List.nil_append,show (p+((0:Nat):Int)).toNat=p.toNat by omega,List.take_append_drop]
       have hwr:=bNo p hp.1 code (EI (aI t m).f1 (aI t m).f2 (G.set a v)) (by omega) (by omega) (bMG code p (oH (aI t m).f2) (EI (aI t m).f1 (aI t m).f2 (G.set a v))) _ k 0 (Nat.zero_add _) (by unfold big at hk;omega);rw [bNx,bMP] at hwr;rw [bMN hk hv code p hp.1 hl a v m G hd hm hins hfit (by omega) hr,Option.bind_some,hfa,Option.bind_some,if_pos rfl,if_pos hp.1,if_pos (by omega),hdec,Option.bind_some,if_pos rfl,hw,aIs,Option.bind_some,bNl,if_pos rfl,if_pos (show (0:Int)≤(m:Int) by omega),if_pos (show (m:Int)<(t.length:Int) by omega),if_pos ha.1,if_pos (show (a:Int)<((aI t m).f2.length:Int) by omega),
        Cat.aKv,Option.bind_some,aIs,Option.bind_some]
       rw [if_pos (show (decide ((Cat.YA (rd (aI t m).f2 (a:Int))).1≤v)&&decide (v≤(Cat.YA (rd (aI t m).f2 (a:Int))).2))=true from hr),if_pos ha.2,hcopy,Option.bind_some,Int.toNat_natCast,hcode,Option.bind_some];exact hwr
      ·have hr':=Bool.eq_false_iff.2 hr;rw [bMT hk t code p a v m _ G hd hm hgl (by omega) hr',Option.bind_some,hfa,Option.bind_some,if_pos rfl,if_pos hp.1,if_pos (by omega),hdec,Option.bind_some,if_pos rfl,hw,aIs,Option.bind_some,bNl,if_pos rfl,if_pos (show (0:Int)≤(m:Int) by omega),if_pos (show (m:Int)<(t.length:Int) by omega),if_pos ha.1,if_pos (show (a:Int)<((aI t m).f2.length:Int) by omega),
        Cat.aKv,Option.bind_some,aIs,Option.bind_some]
       rw [if_neg (show ¬ (decide ((Cat.YA (rd (aI t m).f2 (a:Int))).1≤v)&&decide (v≤(Cat.YA (rd (aI t m).f2 (a:Int))).2))=true from hr),OB,Option.bind_some,if_pos (by decide)];rfl
     ·have bNl:(decide ((0:Int)≤arg)&&decide (arg≤(G.length:Int)-1))=false:=by
       rw [Bool.eq_false_iff];simp only [ne_eq,Bool.and_eq_true,decide_eq_true_eq];omega
      rw [bM3 hk t code p arg v _ _ G hd ha,Option.bind_some,hfa,Option.bind_some,if_pos rfl,if_pos hp.1,if_pos (by omega),hdec,Option.bind_some,if_pos rfl,hw,aIs,Option.bind_some,bNl,if_neg (by decide),OB,Option.bind_some,if_pos (by decide)];rfl
    ·have hn:∀ j,j<t.length→¬ good t (code.drop p.toNat) j:=fun j hj hh=>hg ⟨j,hj,hh⟩
     rw [bMI t code p arg v 17 p (by decide) (bML hsz hk code hb p hv hl hp.1 hp.2 hn),Option.bind_some,bMY hsz hk code p hv hl hp.1 hp.2,Option.bind_some,if_pos rfl,if_pos hp.1,if_pos (by omega),bMW hv _ (hb.drop _) hdl bNn k hk hn,Option.bind_some,if_neg (by decide),OB,Option.bind_some,if_pos (by simp)];rfl
   ·rw [bMI t code p arg v 3 (-5) (by decide) (bMO hsz hk code p hv hl hp),Option.bind_some,bNd hsz hk code p hv hl hp,Option.bind_some,if_neg (by decide),if_pos (by decide)];rfl
 ·rw [bMI t code p arg v _ _ hv (decode_bad hsz hk code p hv),Option.bind_some,bNc hsz hk code p hv,Option.bind_some,if_neg (show ¬ (vS t).1=0 from hv),if_pos (by simp)]
  rfl
theorem PatchMatchesSpec (t:List nJ) (hwf:∀ f ∈ t,NK.YN f) (hlen:t.length*48≤140737488351232) (hsz:∀ f ∈ t,NK.GL f) (code:List Int) (hcl:code.length*1≤140737488351232) (hcw:∀ x ∈ code,(Lit.int .u8 x).wf=true) (p:Int) (hp:(Lit.int .i64 p).wf=true) (arg:Int) (ha:(Lit.int .i64 arg).wf=true) (v:Int) (hv:(Lit.int .i64 v).wf=true):∃ k,aW.f k t code p arg v=some true:=by
 obtain ⟨k,hk⟩:∃ k,big k:=⟨_,Nat.lt_succ_self _⟩
 exact ⟨k,bMV t hsz code (bMS hcw) p arg v k hk⟩
end Go.Proofs.Ytipjpdiianopcaa.Pure
