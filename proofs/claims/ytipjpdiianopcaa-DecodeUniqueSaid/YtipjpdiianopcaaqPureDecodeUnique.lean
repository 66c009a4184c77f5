/- Words and contracts for the laws of encode. -/
import Derived.Test.YtipjpdiianopcaaqPpk
import Derived.Test.YtipjpdiianopcaaqBn12
set_option linter.unusedSimpArgs false
namespace Go.Proofs.Ytipjpdiianopcaa.Pure
open Go.RowKit Go.Proofs.YtipjpdiianopcaaW.dF Go.Proofs.YtipjpdiianopcaaW.fO Go.Proofs.Ytipjpdiianopcaa.A Go.Proofs.Ytipjpdiianopcaa.E Go.Proofs.Ytipjpdiianopcaa.Cl Go.Proofs.Ytipjpdiianopcaa.Cen Go.Proofs.Ytipjpdiianopcaa.Ppa
set_option linter.unusedVariables false
theorem bM9 (t:List nJ) (hsz:∀ f ∈ t,NK.GL f) (code:List Int) (hb:Bt code) (p:Int) (k:Nat) (hk:big k):Cc.f k t code p=some true:=by
 unfold Cc.f
 rw [VU hk,Option.bind_some,if_pos rfl]
 by_cases hv:Valid t
 ·have ht:=hv.len
  by_cases hl:(code.length:Int)>1500
  ·rw [bMK hsz hk code p hv hl,Option.bind_some,if_neg (by decide)];rfl
  ·by_cases hp:0≤p∧p<(code.length:Int)
   ·by_cases hg:∃ m,m<t.length∧good t (code.drop p.toNat) m
    ·obtain ⟨m,hm,hg⟩:=hg;have hf:=hv.form (m:Int) (by omega) (by omega);have hse:=size_eq _ hf.2.2.2.2;have hfit:=bM4 hp.1 hp.2 hg;have hgl:=bMJ (code.drop p.toNat) (aI t m).f2;have hw:wrap64 (p+oH (aI t m).f2)=p+oH (aI t m).f2:=wsm _ (by omega) (by omega);have hw2:wrap64 ((code.length:Int)-p)=(code.length:Int)-p:=wsm _ (by omega) (by omega);have hv0:(vS t).1=0:=hv;have h4:=hf.2.2.2.1;have e:(code.take (p+oH (aI t m).f2).toNat).drop p.toNat=(code.drop p.toNat).take (oH (aI t m).f2).toNat:=by
      rw [List.drop_take,show (p+oH (aI t m).f2).toNat-p.toNat=(oH (aI t m).f2).toNat by omega]
     rw [bMH hsz hk code hb p hv hl hp.1 hp.2 m hm hg,Option.bind_some,if_pos rfl,aDb hsz (m:Int) _ (by rw [hgl];omega) hk,Option.bind_some,bEs hsz hk (m:Int) hv (by omega) (by omega),Option.bind_some,if_pos hv0,if_pos hg.2.2.1,if_pos rfl,if_pos rfl,if_pos rfl,aIs,Option.bind_some,fB hp.1,fB (show p≤(code.length:Int) by omega),if_pos (show (true&&true)=true from rfl),
      hw2,aIs,Option.bind_some,fB (show (0:Int)≤oH (aI t m).f2 by omega),fB (show oH (aI t m).f2≤(code.length:Int)-p by omega),if_pos (show (true&&true)=true from rfl),if_pos hp.1,hw,if_pos (show p≤p+oH (aI t m).f2 by omega),if_pos hfit,e,hg.2.2.2,bMP,Option.bind_some]
    ·have hn:∀ j,j<t.length→¬ good t (code.drop p.toNat) j:=fun j hj hh=>hg ⟨j,hj,hh⟩
     rw [bML hsz hk code hb p hv hl hp.1 hp.2 hn,Option.bind_some,if_neg (by simp)];rfl
   ·rw [bMO hsz hk code p hv hl hp,Option.bind_some,if_neg (by decide)];rfl
 ·rw [decode_bad hsz hk code p hv,Option.bind_some,if_neg (show ¬ (vS t).1=0 from hv)]
  rfl
theorem DecodeUnique (t:List nJ) (hwf:∀ f ∈ t,NK.YN f) (hlen:t.length*48≤140737488351232) (hsz:∀ f ∈ t,NK.GL f) (code:List Int) (hcl:code.length*1≤140737488351232) (hcw:∀ x ∈ code,(Lit.int .u8 x).wf=true) (p:Int) (hp:(Lit.int .i64 p).wf=true):∃ k,Cc.f k t code p=some true:=by
 obtain ⟨k,hk⟩:∃ k,big k:=⟨_,Nat.lt_succ_self _⟩
 exact ⟨k,bM9 t hsz code (bMS hcw) p k hk⟩
end Go.Proofs.Ytipjpdiianopcaa.Pure
