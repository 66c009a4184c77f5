/- Words and contracts for the laws of encode. -/
import Derived.Test.YtipjpdiianopcaaqCat2
set_option linter.unusedVariables false
set_option linter.unusedSimpArgs false
namespace Go.Proofs.Ytipjpdiianopcaa.Cen
open Go.RowKit Go.Proofs.YtipjpdiianopcaaW.dF Go.Proofs.YtipjpdiianopcaaW.fO Go.Proofs.Ytipjpdiianopcaa.A Go.Proofs.Ytipjpdiianopcaa.Pure Go.Proofs.Ytipjpdiianopcaa.Cl Go.Proofs.Ytipjpdiianopcaa.Cv Go.Proofs.Ytipjpdiianopcaa.Cat Go.Proofs.Ytipjpdiianopcaa.Cby
set_option linter.unusedVariables false
def PK (l:List Int):Bool:=decide (l.length≤4)&&l.all fun x=>decide (1≤x)&&decide (x≤6)
theorem TC {l:List Int} (h:PK l=true):l.length≤4∧∀ x ∈ l,1≤x∧x≤6:=by
 unfold PK at h
 simp only [Bool.and_eq_true,decide_eq_true_eq,List.all_eq_true] at h
 exact h
theorem kindsOk_of {l:List Int} (h:l.length≤4) (h2:∀ x ∈ l,1≤x∧x≤6):PK l=true:=by
 unfold PK
 simp only [Bool.and_eq_true,decide_eq_true_eq,List.all_eq_true]
 exact ⟨h,h2⟩
def lW.f (l0:List nJ) (bY:Int) (dR:List Int):Option (List Int) :=
 if 0≤bY∧bY<(l0.length:Int)∧PK (aI l0 bY).f2=true∧dR.length=(aI l0 bY).f2.length then some (CO dR (JX (aI l0 bY)) (lay (aI l0 bY).f2)) else none
theorem lW.calls (A0:Option Addr) (c0:Nat) (l0:List (nJ)) (bY:Int) (iE:Option Addr) (gZ:Nat) (dR:List Int) (r:List Int) (w:World) (hr0:Kd.C Nv w A0 l0.length l0) (hc0:l0.length≤c0) (Dq:Kd.C (Kd.int .i64) w iE dR.length dR) (Dt:dR.length≤gZ) (h:lW.f l0 bY dR=some r) :
  Calls Try.prog 78 #[.slice A0 l0.length c0,.agg #[.int .i64 bY,.slice iE dR.length gZ]] w fun e w'=>∃ ZP:Value,e=.returned (ZP)∧Kd.R (Kd.int .u8) 5 w' w.heap.size (fun _=>True) ZP r∧Below w.heap.size w w':=by
 unfold lW.f at h
 split at h
 ·rename_i hc
  obtain ⟨h0,h1,h2,h3⟩:=hc
  obtain rfl:=Option.some.inj h
  obtain ⟨h4,h5⟩:=TC h2
  exact callsIn_wide.1 (aKL A0 c0 l0 bY iE gZ dR w hr0 hc0 Dq Dt h0 h1 h4 h5 h3)
 ·cases h
def CU.f (l0:List nJ) (l1:List Int) (a2:Int):Option (Int × List Int × Int × Bool) :=
 if 0≤a2∧a2<(l1.length:Int)∧l1.length≤1000000∧l0.all (fun f=>PK f.f2)=true then some (atF l0 l1 a2) else none
theorem CU.calls (A0:Option Addr) (c0:Nat) (l0:List (nJ)) (A1:Option Addr) (c1:Nat) (l1:List Int) (a2:Int) (r1:Int) (r2:List Int) (r3:Int) (r4:Bool) (w:World) (hr0:Kd.C Nv w A0 l0.length l0) (hc0:l0.length≤c0) (hr1:Kd.C (Kd.int .u8) w A1 l1.length l1) (hc1:l1.length≤c1) (h:CU.f l0 l1 a2=some (r1,r2,r3,r4)) :
  Calls Try.prog 79 #[.slice A0 l0.length c0,.slice A1 l1.length c1,.int .i64 a2] w fun e w'=>∃ v1_:Value,e=.returned (.tuple #[.agg #[.int .i64 r1,v1_],.int .i64 r3,.bool r4])∧Kd.R (Kd.int .i64) 3 w' w.heap.size (fun _=>True) v1_ r2∧Below w.heap.size w w':=by
 unfold CU.f at h
 split at h
 ·rename_i hc
  obtain ⟨h0,h1,h2,h3⟩:=hc
  have e:=Option.some.inj h
  have hall:∀ f ∈ l0,f.f2.length≤4∧∀ x ∈ f.f2,1≤x∧x≤6:=fun f hf=>TC (List.all_eq_true.1 h3 f hf)
  have main:CallsIn Fence.wide 5 Try.prog 79 #[.slice A0 l0.length c0,.slice A1 l1.length c1,.int .i64 a2] w (aBg w (atF l0 l1 a2)):=by
   obtain ⟨j,hj⟩:∃ j,Dn (wR (rd l1 a2)) l0=j:=⟨_,rfl⟩
   by_cases hn:j<0
   ·rw [show atF l0 l1 a2=nothing by unfold atF;rw [hj,if_pos hn]];exact at_neg A0 c0 l0 A1 c1 l1 a2 w hr0 hc0 hr1 hc1 h0 h1 h2 hall j hj hn
   ·have hb:=aIk (wR (rd l1 a2)) l0;rw [hj] at hb;obtain ⟨m,hm⟩:∃ m:Nat,oH (aI l0 j).f2=(m:Int):=⟨(oH (aI l0 j).f2).toNat,by unfold oH;omega⟩
    by_cases hl:(l1.length:Int)<a2+m
    ·rw [show atF l0 l1 a2=nothing by unfold atF;rw [hj,if_neg hn,hm,if_pos hl]];exact aNR A0 c0 l0 A1 c1 l1 a2 w hr0 hc0 hr1 hc1 h0 h1 h2 hall j hj (by omega) hb.2 m hm hl
    ·exact aY3 A0 c0 l0 A1 c1 l1 a2 w hr0 hc0 hr1 hc1 h0 h1 h2 hall j hj (by omega) hb.2 m hm hl
  rw [e] at main
  exact callsIn_wide.1 main
 ·cases h
end Go.Proofs.Ytipjpdiianopcaa.Cen
