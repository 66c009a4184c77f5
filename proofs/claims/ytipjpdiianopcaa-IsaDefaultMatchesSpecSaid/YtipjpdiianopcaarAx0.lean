/- Words and contracts for the laws. -/
import Derived.Test.YtipjpdiianopcaaProg
import Derived.Below
import Derived.Deep.Draws
import Derived.Deep.AppendLies
import Derived.Maps.AppendAt
import Derived.OwnWalk
import Derived.Laws.BytesArg
import Derived.Laws.MakeOwn
import Derived.Laws.OwnMore
import Derived.Deep.OwnRows
import Derived.Tactics
import Derived.Lib.ConvBytes
import Derived.Laws.Slices
import Derived.WalkKit
import Derived.KernelRfl
import Derived.RowKit3
import Derived.Deep.LoopGhost
import Derived.Deep.QuietTactic
import Derived.BigQuiet
import Derived.WideLaws
import Derived.Deep.DeepCutAuto
import Derived.Deep.CutBlock
import Derived.Deep.RegionHeld3
import Derived.Laws.Rows
import Derived.Lib.AppendStr
import Derived.ArgAppend
import Derived.Laws.IdiomCopy
import Derived.OrdersHeld
import Derived.Laws.BitsLemmas
import Derived.RowKit
import Derived.Test.YtipjpdiianopcaarWWords
import Derived.Test.YtipjpdiianopcaarWM
namespace Go.Proofs.Ytipjpdiianopcaa.A
open Go.RowKit Go.Proofs.YtipjpdiianopcaaW.aZ Go.Proofs.YtipjpdiianopcaaW.dQ Go.Proofs.YtipjpdiianopcaaW.gW
attribute [local go_sem] jY jZ kY kZ jD jE kC kD
set_option linter.unusedVariables false
set_option linter.unusedSimpArgs false
def TA:Option Int→Value
 | none=>.nilIface
 | some c=>.iface 0 (.int .i64 c)
theorem aX:TA none=.nilIface:=rfl
theorem aY (c:Int):TA (some c)=.iface 0 (.int .i64 c):=rfl
theorem info3:(Try.prog.info? 3).map (fun i=>(i.zero,i.size,i.bytes))=some (some (.int .i64 0),1,8):=by kernel_rfl
theorem Et:(Try.prog.info? 54).map (fun i=>(i.zero,i.size,i.bytes))=some (some (.agg #[(.string ⟨#[]⟩),(.int .i64 0),(.slice none 0 0)]),3,48):=by kernel_rfl
def sO (xs:List (List Int)) (i:Int):(List Int):=xs.getD i.toNat ([]:List Int)
theorem TB {w:World} {A:Option Addr} {n:Nat} {xs:List (List Int)} (h:Kd.C (Kd.slice 3 (Kd.int .i64)) w A n xs) (i:Int) (h0:0≤i) (h1:i<n):∃ ad A0 c0,A=some ad∧w.cell? (ad.add i.toNat)=some (.slice A0 (sO xs i).length c0)∧(sO xs i).length≤c0∧(Kd.int .i64).C w A0 (sO xs i).length (sO xs i):=by
 obtain ⟨ad,c,e,_,hK,hc0⟩:=Kd.Pz h ([]:List Int) i h0 h1
 have hc:∀ j u,c[j]?=some u→w.cell? (ad.add (i.toNat*1+j))=some u:=hc0
 obtain ⟨A0,c0,rfl,l0,g0⟩:=hK
 exact ⟨ad,A0,c0,e,by have hq:=hc 0 _ rfl;rwa [Nat.mul_one,Nat.add_zero] at hq,l0,g0⟩
structure iJ where
 f0:ByteArray
 f1:Int
 f2:(List Int)
def z54:iJ:=⟨(⟨#[]⟩:ByteArray),(0:Int),([]:List Int)⟩
def rC:Kd iJ:=Kd.iso (Kd.pair Kd.string (Kd.pair (Kd.int .i64) (Kd.slice 3 (Kd.int .i64)))) (fun x:iJ=>(x.f0,x.f1,x.f2))
theorem yX {w:World} {x:iJ} {cs:List Value} (h:rC.K w x cs):∃ A2 c2,cs=[.string x.f0,.int .i64 x.f1,.slice A2 x.f2.length c2]∧x.f2.length≤c2∧(Kd.int .i64).C w A2 x.f2.length x.f2:=by
 obtain ⟨_,_,rfl,rfl,⟨_,_,rfl,rfl,⟨A2,c2,rfl,l2,g2⟩⟩⟩:=h
 exact ⟨A2,c2,rfl,l2,g2⟩
theorem IJ {w:World} {base:Nat} {ok:Nat→Prop} {x:iJ} {cs:List Value} (h:rC.M w base ok x cs):∃ v2,cs=[.string x.f0,.int .i64 x.f1,v2]∧(Kd.int .i64).R 3 w base ok v2 x.f2:=by
 obtain ⟨_,_,rfl,rfl,⟨_,_,rfl,rfl,⟨v2,rfl,g2⟩⟩⟩:=h
 exact ⟨v2,rfl,g2⟩
theorem Qj (w:World) (x:iJ) {A2:Option Addr} {c2:Nat} (l2:x.f2.length≤c2) (g2:(Kd.int .i64).C w A2 x.f2.length x.f2):rC.K w x [.string x.f0,.int .i64 x.f1,.slice A2 x.f2.length c2]:=⟨[.string x.f0],[.int .i64 x.f1,.slice A2 x.f2.length c2],rfl,rfl,⟨[.int .i64 x.f1],[.slice A2 x.f2.length c2],rfl,rfl,⟨A2,c2,rfl,l2,g2⟩⟩⟩
theorem Gj (w:World) (base:Nat) (ok:Nat→Prop) (x:iJ) {v2:Value} (g2:(Kd.int .i64).R 3 w base ok v2 x.f2):rC.M w base ok x [.string x.f0,.int .i64 x.f1,v2]:=⟨[.string x.f0],[.int .i64 x.f1,v2],rfl,rfl,⟨[.int .i64 x.f1],[v2],rfl,rfl,⟨v2,rfl,g2⟩⟩⟩
theorem oI {W:World} {ok:Nat→Prop} {x:iJ} {cs:List Value} (h:Kd.FK rC W ok x cs):∃ A2 c2,cs=[.string x.f0,.int .i64 x.f1,.slice A2 x.f2.length c2]∧x.f2.length≤c2∧Kd.F (Kd.int .i64) W ok A2 x.f2.length x.f2:=by
 obtain ⟨A2,c2,rfl,l2,_⟩:=yX (Kd.uS h)
 exact ⟨A2,c2,rfl,l2,(fun W' hW=>by obtain ⟨A2_,c2_,he,l2_,g2_⟩:=yX (h W' hW);injection (Option.some.inj (show some (Value.slice A2 x.f2.length c2)=some (Value.slice A2_ x.f2.length c2_) from congrArg (fun l=>l[2]?) he)) with ha_ _ _;rw [ha_];exact g2_)⟩
theorem Bi (W:World) (ok:Nat→Prop) (x:iJ) {A2:Option Addr} {c2:Nat} (l2:x.f2.length≤c2) (g2:Kd.F (Kd.int .i64) W ok A2 x.f2.length x.f2):Kd.FK rC W ok x [.string x.f0,.int .i64 x.f1,.slice A2 x.f2.length c2]:=fun W2 hW=>Qj W2 x l2 (g2 W2 hW)
def aG (xs:List iJ) (i:Int):iJ:=xs.getD i.toNat z54
theorem lC {w:World} {A:Option Addr} {n:Nat} {xs:List iJ} (h:Kd.C rC w A n xs) (i:Int) (h0:0≤i) (h1:i<n):∃ ad A2 c2,A=some ad∧w.cell? (ad.add (i.toNat*3))=some (.string (aG xs i).f0)∧w.cell? ⟨(ad.add (i.toNat*3)).block,(ad.add (i.toNat*3)).off+1,none⟩=some (.int .i64 (aG xs i).f1)∧w.cell? ⟨(ad.add (i.toNat*3)).block,(ad.add (i.toNat*3)).off+2,none⟩=some (.slice A2 (aG xs i).f2.length c2)∧(aG xs i).f2.length≤c2∧(Kd.int .i64).C w A2 (aG xs i).f2.length (aG xs i).f2:=by
 obtain ⟨ad,c,e,_,hK,hc0⟩:=Kd.Pz h z54 i h0 h1
 have hc:∀ j u,c[j]?=some u→w.cell? (ad.add (i.toNat*3+j))=some u:=hc0
 obtain ⟨A2,c2,rfl,l2,g2⟩:=yX hK
 exact ⟨ad,A2,c2,e,hc 0 _ rfl,by rw [← mJ _ _ 1 (by omega)];exact hc 1 _ rfl,by rw [← mJ _ _ 2 (by omega)];exact hc 2 _ rfl,l2,g2⟩
end Go.Proofs.Ytipjpdiianopcaa.A
