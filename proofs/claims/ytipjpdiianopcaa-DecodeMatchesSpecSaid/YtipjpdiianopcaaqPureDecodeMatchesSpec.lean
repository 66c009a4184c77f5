/- Words and contracts for the laws of encode. -/
import Derived.Test.YtipjpdiianopcaaqPpn
import Derived.Test.YtipjpdiianopcaaqBn7
set_option linter.unusedSimpArgs false
namespace Go.Proofs.Ytipjpdiianopcaa.Pure
open Go.RowKit Go.Proofs.YtipjpdiianopcaaW.dF Go.Proofs.YtipjpdiianopcaaW.fO Go.Proofs.Ytipjpdiianopcaa.A Go.Proofs.Ytipjpdiianopcaa.E Go.Proofs.Ytipjpdiianopcaa.Cl Go.Proofs.Ytipjpdiianopcaa.Cen Go.Proofs.Ytipjpdiianopcaa.Ppa
set_option linter.unusedVariables false
theorem bMU (t:List nJ) (hsz:∀ f ∈ t,NK.GL f) (code:List Int) (hb:Bt code) (p:Int) (k:Nat) (hk:big k):iU.f k t code p=some true:=by
 have s0:=bMQ hk 0 [] (by decide)
 unfold iU.f
 rw [VU hk,Option.bind_some,if_pos rfl]
 by_cases hv:Valid t
 ·have ht:=hv.len
  by_cases hl:(code.length:Int)>1500
  ·rw [bMK hsz hk code p hv hl,Option.bind_some,bM8 hsz hk code p hv hl,Option.bind_some,if_neg (by decide),if_pos (by decide),if_pos rfl,s0,Option.bind_some]
  ·by_cases hp:0≤p∧p<(code.length:Int)
   ·have hdl:0<(code.drop p.toNat).length:=by rw [Dw];omega
    have bNn:(code.drop p.toNat).length≤1000000:=by rw [Dw];omega
    by_cases hg:∃ m,m<t.length∧good t (code.drop p.toNat) m
    ·obtain ⟨m,hm,hg⟩:=hg;have hgl:(guess (code.drop p.toNat) (aI t m).f2).length<1000000:=by
      rw [bMJ];have:=(hv.form (m:Int) (by omega) (by omega)).2.2.2.1;omega
     rw [bMH hsz hk code hb p hv hl hp.1 hp.2 m hm hg,Option.bind_some,bMY hsz hk code p hv hl hp.1 hp.2,Option.bind_some,if_pos rfl,if_pos hp.1,if_pos (by omega),bMX hv _ (hb.drop _) hdl bNn k hk m hm hg,Option.bind_some,if_pos rfl,if_pos rfl,if_pos (show (0:Int)≤(m:Int) by omega),
      if_pos (show (m:Int)<(t.length:Int) by omega),aUk hk (m:Int) hv (by omega) (by omega),Option.bind_some,if_pos rfl,bMQ hk _ _ hgl,Option.bind_some]
    ·have hn:∀ j,j<t.length→¬ good t (code.drop p.toNat) j:=fun j hj hh=>hg ⟨j,hj,hh⟩
     rw [bML hsz hk code hb p hv hl hp.1 hp.2 hn,Option.bind_some,bMY hsz hk code p hv hl hp.1 hp.2,Option.bind_some,if_pos rfl,if_pos hp.1,if_pos (by omega),bMW hv _ (hb.drop _) hdl bNn k hk hn,Option.bind_some,if_neg (by decide),OB,Option.bind_some,if_pos (by simp),if_pos rfl,s0,Option.bind_some]
   ·rw [bMO hsz hk code p hv hl hp,Option.bind_some,bNd hsz hk code p hv hl hp,Option.bind_some,if_neg (by decide),if_pos (by decide),if_pos rfl,s0,Option.bind_some]
 ·rw [decode_bad hsz hk code p hv,Option.bind_some,bNc hsz hk code p hv,Option.bind_some,if_neg (show ¬ (vS t).1=0 from hv),if_pos (by simp),if_pos rfl,s0,Option.bind_some]
theorem DecodeMatchesSpec (t:List nJ) (hwf:∀ f ∈ t,NK.YN f) (hlen:t.length*48≤140737488351232) (hsz:∀ f ∈ t,NK.GL f) (code:List Int) (hcl:code.length*1≤140737488351232) (hcw:∀ x ∈ code,(Lit.int .u8 x).wf=true) (p:Int) (hp:(Lit.int .i64 p).wf=true):∃ k,iU.f k t code p=some true:=by
 obtain ⟨k,hk⟩:∃ k,big k:=⟨_,Nat.lt_succ_self _⟩
 exact ⟨k,bMU t hsz code (bMS hcw) p k hk⟩
end Go.Proofs.Ytipjpdiianopcaa.Pure
