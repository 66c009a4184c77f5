/- Words and contracts for the laws of encode. -/
import Derived.Test.YtipjpdiianopcaaqPpk
import Derived.Test.YtipjpdiianopcaaqBn8
set_option linter.unusedSimpArgs false
namespace Go.Proofs.Ytipjpdiianopcaa.Pure
open Go.RowKit Go.Proofs.YtipjpdiianopcaaW.dF Go.Proofs.YtipjpdiianopcaaW.fO Go.Proofs.Ytipjpdiianopcaa.A Go.Proofs.Ytipjpdiianopcaa.E Go.Proofs.Ytipjpdiianopcaa.Cl Go.Proofs.Ytipjpdiianopcaa.Cen Go.Proofs.Ytipjpdiianopcaa.Ppa
set_option linter.unusedVariables false
theorem wlg (x:Int) (h0:0≤x) (h1:x≤1000000000000000):wrap64 x=x:=by unfold wrap64;omega
theorem sum3 (a b c:Nat) (ha:a≤140737488351232) (hb:b≤19) (hc:c≤140737488351232):wrap64 ((wrap64 ((a:Int)+(b:Int)))+(c:Int))=(a:Int)+(b:Int)+(c:Int):=by
 rw [wlg ((a:Int)+(b:Int)) (by omega) (by omega),wlg _ (by omega) (by omega)]
theorem bNz {t:List nJ} (hsz:∀ f ∈ t,NK.GL f) (hv:Valid t) (m:Nat) (hm:m<t.length) (l:List Int) (hi:(GM t m l).1=0) (be af:List Int) (hb:Bt be) (ha:Bt af) {k:Nat} (hk:big k) (B:List Int) (hB:EI (aI t m).f1 (aI t m).f2 l=B) (hBl:0<B.length)
  (hc:be.length+B.length+af.length≤1500):fA.f k t (be ++ B ++ af) (be.length:Int)=some ((m:Int),l,oH (aI t m).f2,0,0):=by
 have hBt:Bt B:=by rw [← hB];exact aLu _ _ _
 have hg:=bNk hv m hm l af hi
 rw [hB] at hg
 have hdr:(be ++ B ++ af).drop (be.length:Int).toNat=B ++ af:=by
  rw [Int.toNat_natCast,List.append_assoc,List.drop_append_of_le_length (Nat.le_refl _),List.drop_length,List.nil_append]
 have hln:(be ++ B ++ af).length=be.length+B.length+af.length:=by rw [List.length_append,List.length_append]
 have h1:¬ (((be ++ B ++ af).length:Nat):Int)>1500:=by rw [hln];omega
 have h2:((be.length:Nat):Int)<(((be ++ B ++ af).length:Nat):Int):=by rw [hln];omega
 have h3:good t ((be ++ B ++ af).drop (be.length:Int).toNat) m:=by rw [hdr];exact hg.1
 have hd:=bMH hsz hk (be ++ B ++ af) (Bt.app (Bt.app hb hBt) ha) (be.length:Int) hv h1 (by omega) h2 m hm h3
 rw [hdr,hg.2] at hd
 exact hd
theorem bNr {t:List nJ} (be af B:List Int) (i:Int) (l:List Int) (n:Int) {k:Nat} (hk:big k) (hl:l.length<1000000) (hd:fA.f k t (be ++ B ++ af) (be.length:Int)=some (i,l,n,0,0)) (hn:n=(B.length:Int)) (hc:be.length+B.length+af.length≤1500) (x y:Int) :
  gB.j0 (k+1) t be af B false i l x y=some true:=by
 have hcopy:iZ.f be=some be:=by
  unfold iZ.f
  rw [if_pos (by rw [List.length_nil];omega),List.nil_append]
 have c1:be.length+B.length<140737488355328:=by omega
 have c2:(be ++ B).length+af.length<140737488355328:=by rw [List.length_append];omega
 rw [gB.j0,if_neg (by decide),hcopy,Option.bind_some,if_pos c1,Option.bind_some,if_pos c2,hd,Option.bind_some,if_pos rfl,if_pos hn,bMQ hk _ _ hl,Option.bind_some]
theorem bM1 (t:List nJ) (hsz:∀ f ∈ t,NK.GL f) (i:Int) (l:List Int) (hl:l.length≤1000000000000000) (be af:List Int) (hb:Bt be) (ha:Bt af) (hbl:be.length≤140737488351232) (hal:af.length≤140737488351232) (k:Nat) (hk:big k):gB.f (k+1) t i l be af=some true:=by
 have hk2:big (k+1):=by unfold big at *;omega
 have he:=aDb hsz i l hl hk2
 unfold gB.f
 rw [VU hk2,Option.bind_some,if_pos rfl,he,Option.bind_some]
 by_cases h:(vS t).1=0
 ·have hv:Valid t:=h
  have ht:=hv.len
  by_cases hi:(GM t i l).1=0
  ·obtain ⟨_,h0,h1,h2,_⟩:=OC t i l hi;obtain ⟨m,rfl⟩:=Int.eq_ofNat_of_zero_le h0;have hm:m<t.length:=by omega
   have hf:=hv.form (m:Int) h0 h1;have hcl:=aIt (aI t m).f1 (aI t m).f2 l hf.2.2.2.2 h2;have hsb:=ML _ hf.2.2.2.1;have hl4:=hf.2.2.2.1;rw [if_pos h,if_pos hi,if_pos rfl];generalize hB:EI (aI t m).f1 (aI t m).f2 l=B at hcl;have hBl:0<B.length∧B.length≤19:=by omega
   have hw:wrap64 ((wrap64 ((be.length:Int)+(B.length:Int)))+(af.length:Int))=(be.length:Int)+(B.length:Int)+(af.length:Int):=sum3 _ _ _ hbl hBl.2 hal;show gB.j0 (k+1) t be af B (decide ((wrap64 ((wrap64 ((be.length:Int)+(B.length:Int)))+(af.length:Int)))>1500)) (m:Int) l 0 0=some true;rw [hw];clear hw
   by_cases hc:(be.length:Int)+(B.length:Int)+(af.length:Int)>1500
   ·rw [fB hc,gB.j0,if_pos rfl,if_pos rfl]
   ·have hc2:be.length+B.length+af.length≤1500:=by omega
    rw [kT hc];exact bNr be af B (m:Int) l _ hk (by omega) (bNz hsz hv m hm l hi be af hb ha hk B hB hBl.1 hc2) hcl.symm hc2 0 0
  ·rw [if_pos h,if_neg hi,if_neg hi,gB.j0,if_pos rfl,if_neg hi];rfl
 ·rw [if_neg h,if_neg h,gB.j0,if_pos rfl,if_neg h]
  rfl
theorem EncodeRoundTrip (t:List nJ) (hwf:∀ f ∈ t,NK.YN f) (hlen:t.length*48≤140737488351232) (hsz:∀ f ∈ t,NK.GL f) (i:Int) (l:List Int) (hi:(Lit.int .i64 i).wf=true∧NK.YM l) (hl:l.length*8≤140737488351232) (be:List Int) (hbl:be.length*1≤140737488351232) (hbw:∀ x ∈ be,(Lit.int .u8 x).wf=true) (af:List Int) (hal:af.length*1≤140737488351232) (haw:∀ x ∈ af,(Lit.int .u8 x).wf=true):∃ k,gB.f k t i l be af=some true:=by
 obtain ⟨k,hk⟩:∃ k,big k:=⟨_,Nat.lt_succ_self _⟩
 exact ⟨_,bM1 t hsz i l (by omega) be af (bMS hbw) (bMS haw) (by omega) (by omega) k hk⟩
end Go.Proofs.Ytipjpdiianopcaa.Pure
