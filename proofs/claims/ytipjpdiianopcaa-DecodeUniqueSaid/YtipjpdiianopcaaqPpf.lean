/- Words and contracts for the laws of encode. -/
import Derived.Test.YtipjpdiianopcaaqPpd
import Derived.Test.YtipjpdiianopcaaqBn4
import Derived.KernelRfl
set_option linter.unusedSimpArgs false
namespace Go.Proofs.Ytipjpdiianopcaa.Ppa
open Go.RowKit Go.Proofs.YtipjpdiianopcaaW.dF Go.Proofs.YtipjpdiianopcaaW.fO Go.Proofs.Ytipjpdiianopcaa.A Go.Proofs.Ytipjpdiianopcaa.E Go.Proofs.Ytipjpdiianopcaa.Pure Go.Proofs.Ytipjpdiianopcaa.Cl Go.Proofs.Ytipjpdiianopcaa.Cby Go.Proofs.Ytipjpdiianopcaa.Cen
set_option linter.unusedVariables false
def tn:List nJ:=[⟨⟨#[97]⟩,7,[]⟩,⟨⟨#[98]⟩,9,[1,3]⟩]
theorem aLo:∀ f ∈ tn,NK.GL f:=by
 intro f hf
 simp only [tn,List.mem_cons,List.not_mem_nil,or_false] at hf
 rcases hf with rfl|rfl <;> (unfold NK.GL;decide +kernel)
theorem aQy:vS tn=(0,0):=by decide +kernel
theorem aUa {k:Nat} (hk:big k):gX.f k tn 1 [5,-2]=some ([9,5,254],0,0):=by
 rw [aDb aLo 1 [5,-2] (by decide) hk]
 decide +kernel
theorem aUb:CU.f tn [9,5,254] 0=some (1,[5,-2],3,true):=by decide +kernel
theorem aUc:CU.f tn [7,9,5,254] 1=some (1,[5,-2],3,true):=by decide +kernel
theorem aUd {k:Nat} (hk:big k):fA.f k tn [9,5,254] 0=some (1,[5,-2],3,0,0):=by
 obtain ⟨k,rfl⟩:∃ k',k=k'+1:=⟨k-1,by unfold big at hk;omega⟩
 unfold fA.f
 rw [MS aLo hk,Option.bind_some,aQy,if_neg (by decide),if_neg (by decide),if_neg (by decide),fA.j0,if_neg (by decide),aUb,Option.bind_some,if_pos rfl]
theorem aOc {k:Nat} (hk:big k):fA.f k tn [7,9,5,254] 1=some (1,[5,-2],3,0,0):=by
 obtain ⟨k,rfl⟩:∃ k',k=k'+1:=⟨k-1,by unfold big at hk;omega⟩
 unfold fA.f
 rw [MS aLo hk,Option.bind_some,aQy,if_neg (by decide),if_neg (by decide),if_neg (by decide),fA.j0,if_neg (by decide),aUc,Option.bind_some,if_pos rfl]
theorem aUe {k:Nat} (hk:big k):eH.f k tn [7,9,5,254] 1 0 3=some ([7,9,3,254],0,0):=by
 unfold eH.f
 rw [aOc hk,Option.bind_some,if_neg (by decide),if_neg (by decide)]
 obtain ⟨k,rfl⟩:∃ k',k=k'+1:=⟨k-1,by unfold big at hk;omega⟩
 rw [eH.j0]
 decide +kernel
theorem aOd {k:Nat} (hk:big k):eF.f k [5,-2] [5,-2]=some true:=by
 obtain ⟨k,rfl⟩:∃ k',k=k'+3:=⟨k-3,by unfold big at hk;omega⟩
 unfold eF.f
 rw [if_pos rfl,eF.l0,eF.l0,eF.l0,if_pos (by decide +kernel),if_pos (by decide +kernel),if_pos (by decide +kernel),if_pos rfl,if_pos (by decide +kernel),if_pos (by decide +kernel),if_pos (by decide +kernel),if_pos rfl,if_neg (by decide +kernel)]
theorem VU {k:Nat} (hk:big k):dL.f k=some true:=by
 have e:iP.f=some tn:=rfl
 unfold dL.f
 rw [e,Option.bind_some,aUa hk,Option.bind_some,Option.bind_some,aUd hk,Option.bind_some,Option.bind_some,aUe hk,Option.bind_some,if_pos rfl,if_pos rfl,if_pos rfl,
  show bF.f ([9,5,254]:List Int) [9,5,254]=some true by decide +kernel,Option.bind_some,if_pos rfl,if_pos rfl,if_pos rfl,aOd hk,Option.bind_some,if_pos rfl,
  show bF.f ([7,9,3,254]:List Int) [7,9,3,254]=some true by decide +kernel]
 rfl
end Go.Proofs.Ytipjpdiianopcaa.Ppa
