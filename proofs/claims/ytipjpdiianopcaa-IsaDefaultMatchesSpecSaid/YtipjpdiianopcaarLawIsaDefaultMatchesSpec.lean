/- Words and contracts for the laws. -/
import Derived.Test.YtipjpdiianopcaaRows
import Derived.Test.YtipjpdiianopcaarBd4
import Derived.Test.YtipjpdiianopcaarPureIsaDefaultMatchesSpec
import Derived.Test.YtipjpdiianopcaaK1
import Derived.Test.YtipjpdiianopcaaK2
import Derived.Test.YtipjpdiianopcaaK3
import Derived.Test.YtipjpdiianopcaarAx0
import Derived.JoinedOf
import Derived.KernelRfl
import Derived.WalkKit
import Derived.ProofKit
import Derived.OpenShut
import Derived.ShutString
import Derived.ChangeOld
import Derived.Below
import Derived.SizedLaws
import Derived.Test.YtipjpdiianopcaarWM
set_option linter.unusedSimpArgs false
namespace Go.Proofs.Ytipjpdiianopcaa.isaDefaultMatchesSpec
open Go.ChangeShapes Go.WideShapes Go.ChangeAt Go.RowKit
open Go.ChangeMaps (open_string shut_string)
open Go.Proofs.YtipjpdiianopcaaW.aZ
set_option linter.unusedVariables false
theorem own:ownKnob Try.prog.godebug=none:=by kernel_rfl
theorem laidOut:laidOutB Try.prog=true:=by kernel_rfl
def aDM (k:IntKind) (w:World) (a:Option Addr) (len cap:Nat) (zs:List Int):Prop :=
 (a=none∧len=0∧cap=0∧zs=[]) ∨
 ∃ x,a=some x∧len≤cap∧cap≤maxLen∧zs.length=cap∧(∀ i,i<zs.length→w.cell? (x.add i)=some (.int k (zs.getD i 0)))∧∀ n ∈ zs,(Lit.int k n).wf=true
set_option maxRecDepth 100000 in
theorem lifted (os:Os) (started:os.Started) (H:Type) (enc:TypeId × Value→H) :
  ReturnsInHanded {} Try.checked os 12 .any (Rows.isaDefaultMatchesSpecSpec.pre6 enc Try.prog Try.f12 Rows.isaDefaultMatchesSpecRow.domain false) (Rows.isaDefaultMatchesSpecSpec.post enc Try.prog Try.f12 false true false false):=by
 refine returnsInHanded_of_change_sized (C:=Try.checked) own started aV Try.func12
  (ChangeSpec.witness6 (enc:=enc) (C:=Try.checked) false ⟨#[],#[.int .i64 0],[]⟩ 8 aV aV aV aV) ?_
 intro W base args ds gs before hval0 hW hcnd hsz0 _
 have hsz:(DataW.weightsEach Try.prog (Try.f12.params.toList ++ Rows.isaDefaultMatchesSpecSpec.plain.varTypes Try.prog) (ds ++ gs)).all (·≤reachBytes)=true:=hsz0
 have hval:∀ (j:Nat) t v,Try.f12.params[j]?=some t→args[j]?=some v→Value.okWide Try.prog W .any base t v:=hval0
 have hW':=hW
 obtain ⟨p,q,hA0,hV,rfl,hfz,hnd⟩:=hW
 have hA:DataW.TrodAll enc Try.prog W 0 (fun _=>true) true Try.f12.params.toList args.toList ds p:=hA0
 rw [Try.params12] at hA hval hsz
 obtain ⟨v0,vs0,d0,ds0,p0,q0,hargs,rfl,rfl,h0,r0⟩:=trodAll_cons hA
 obtain ⟨rfl,rfl,rfl⟩:=trodAll_nil r0
 obtain rfl:args=#[v0]:=by cases args;simp_all
 obtain ⟨rfl,rfl⟩:=trodVars_none hV
 obtain ⟨a0,rfl,rfl,rfl,w0⟩:=open_int Try.underlying3 (hval 0 3 v0 rfl rfl) h0
 clear hA0 hval0 hsz0 hsz
 obtain ⟨k,hf⟩:=Pure.IsaDefaultMatchesSpec a0 w0
 refine (E.aC.calls k a0 true W  rfl hf).mono fun e W' ⟨he,bel⟩=>?_
 subst he
 exact ⟨_,rfl,_,_,_,[],_,[],hW',trodAll_mk1 (shut_bool Try.underlying4 _),(trodAll_cons_mk (shut_int Try.underlying3 w0) trodAll_mk0),rfl,bel.frame _,fun h=>by cases h⟩
theorem cf0:(Rows.isaDefaultMatchesSpecRow.wf (OpenSpec.ofChange Rows.isaDefaultMatchesSpecSpec))=true:=by kernel_rfl
theorem cf1:(laidOutB Try.prog)=true:=by kernel_rfl
theorem cf2:(mapsRowed Try.prog)=true:=by kernel_rfl
theorem cf3:(Try.f12.params.all (Try.prog.readableRec ·))=true:=by kernel_rfl
theorem cf4:(namedTie Try.prog Rows.isaDefaultMatchesSpecRow.named Rows.isaDefaultMatchesSpecSpec.vars)=true:=by kernel_rfl
theorem cf5:((Rows.isaDefaultMatchesSpecRow.stops==[]))=true:=by kernel_rfl
theorem cf6:((Try.prog.stops==[]))=true:=by kernel_rfl
theorem cf7:((Rows.isaDefaultMatchesSpecRow.knobs==[]))=true:=by kernel_rfl
theorem cf8:((Try.prog.stopKnobs==[]))=true:=by kernel_rfl
theorem cf9:((Rows.isaDefaultMatchesSpecRow.inPlace==Try.prog.inPlace 12))=true:=by kernel_rfl
theorem aCj:((Rows.isaDefaultMatchesSpecRow.unfollowed==Try.prog.unfollowed 12))=true:=by kernel_rfl
theorem aCk:((Rows.isaDefaultMatchesSpecRow.recurses==Try.prog.recurses 12))=true:=by kernel_rfl
theorem aCl:((Rows.isaDefaultMatchesSpecRow.named==Try.prog.varsNamed 12))=true:=by kernel_rfl
theorem aCm:((Rows.isaDefaultMatchesSpecRow.maps==(Try.f12.params.toList ++ Rows.isaDefaultMatchesSpecSpec.plain.varTypes Try.prog).any (Try.prog.mapsRec ·)))=true:=by kernel_rfl
theorem aCn:((Rows.isaDefaultMatchesSpecRow.ifaces==(Try.f12.params.toList ++ Rows.isaDefaultMatchesSpecSpec.plain.varTypes Try.prog).any (Try.prog.ifacesRec ·)))=true:=by kernel_rfl
theorem aCo:((Rows.isaDefaultMatchesSpecRow.mapsOut==Try.prog.mapsAmong Try.f12.resultTypes.toList))=true:=by kernel_rfl
theorem aCp:((Rows.isaDefaultMatchesSpecRow.loops==(Try.f12.params.toList ++ Rows.isaDefaultMatchesSpecSpec.plain.varTypes Try.prog).any (Try.prog.loopsFrom ·)))=true:=by kernel_rfl
theorem aCq:((Rows.isaDefaultMatchesSpecRow.wideKeys==(Try.f12.params.toList ++ Rows.isaDefaultMatchesSpecSpec.plain.varTypes Try.prog ++ Try.f12.resultTypes.toList).any (Try.prog.wideKeysFrom ·)))=true:=by kernel_rfl
theorem aCr:(Rows.isaDefaultMatchesSpecSpec.vars.all (Try.prog.varReadable ·))=true:=by kernel_rfl
theorem aCs:(Try.f12.resultTypes.all (fun t=>Try.prog.readableRec t&&decide (t<Try.prog.types.size)))=true:=by kernel_rfl
theorem aCt:((Rows.isaDefaultMatchesSpecRow.ifacesOut==Try.f12.resultTypes.toList.any (Try.prog.ifacesRec ·)))=true:=by kernel_rfl
theorem aCu:((Rows.isaDefaultMatchesSpecRow.loopsOut==Try.f12.resultTypes.toList.any (Try.prog.loopsFrom ·)))=true:=by kernel_rfl
theorem aCv:((Rows.isaDefaultMatchesSpecRow.plainKeys==Try.prog.plainKeys))=true:=by kernel_rfl
theorem aCw:(Rows.isaDefaultMatchesSpecRow.shortTexts.isNone)=true:=by kernel_rfl
theorem aCx:(Try.prog.stopsHeard)=true:=by kernel_rfl
theorem aCy:(Try.prog.mayEnter)=true:=K.mayEnter
theorem aCz:((Rows.isaDefaultMatchesSpecRow.lifted==Try.prog.liftsFinal))=true:=K.lifted
theorem aCA:((Try.prog.make==some Rows.isaDefaultMatchesSpecRow.make))=true:=K.made
theorem aCB:((Rows.isaDefaultMatchesSpecRow.kinds==(if Rows.isaDefaultMatchesSpecRow.domain.isEmpty then [] else Try.f12.params.toList.map fun t=>match Try.prog.underlying t with|some (.int k)=>some k|_=>none)))=true:=by kernel_rfl
theorem aCC:((Rows.isaDefaultMatchesSpecRow.pinned==Rows.isaDefaultMatchesSpecRow.pinnedBy))=true:=by kernel_rfl
theorem aCD:((Rows.isaDefaultMatchesSpecRow.veiled==(Try.f12.params.toList ++ Rows.isaDefaultMatchesSpecSpec.plain.varTypes Try.prog ++ Try.f12.resultTypes.toList).any (Try.prog.veiledRec ·)))=true:=by kernel_rfl
theorem aCE:(Rows.isaDefaultMatchesSpecRow.veiledFits Try.prog Try.f12.params.toList (Try.f12.params.toList ++ Rows.isaDefaultMatchesSpecSpec.plain.varTypes Try.prog ++ Try.f12.resultTypes.toList))=true:=by kernel_rfl
set_option maxRecDepth 100000 in
theorem joined:joinedFacts Try.prog 12 Try.f12 Rows.isaDefaultMatchesSpecSpec Rows.isaDefaultMatchesSpecRow=true:=by
 unfold joinedFacts
 exact (Bool.and_eq_true_iff.2 ⟨(Bool.and_eq_true_iff.2 ⟨(Bool.and_eq_true_iff.2 ⟨(Bool.and_eq_true_iff.2 ⟨(Bool.and_eq_true_iff.2 ⟨(Bool.and_eq_true_iff.2 ⟨(Bool.and_eq_true_iff.2 ⟨(Bool.and_eq_true_iff.2 ⟨(Bool.and_eq_true_iff.2 ⟨(Bool.and_eq_true_iff.2 ⟨(Bool.and_eq_true_iff.2 ⟨(Bool.and_eq_true_iff.2 ⟨(Bool.and_eq_true_iff.2 ⟨(Bool.and_eq_true_iff.2 ⟨(Bool.and_eq_true_iff.2 ⟨(Bool.and_eq_true_iff.2 ⟨(Bool.and_eq_true_iff.2 ⟨(Bool.and_eq_true_iff.2 ⟨(Bool.and_eq_true_iff.2 ⟨(Bool.and_eq_true_iff.2 ⟨(Bool.and_eq_true_iff.2 ⟨(Bool.and_eq_true_iff.2 ⟨(Bool.and_eq_true_iff.2 ⟨(Bool.and_eq_true_iff.2 ⟨(Bool.and_eq_true_iff.2 ⟨(Bool.and_eq_true_iff.2 ⟨(Bool.and_eq_true_iff.2 ⟨(Bool.and_eq_true_iff.2 ⟨(Bool.and_eq_true_iff.2 ⟨(Bool.and_eq_true_iff.2 ⟨(Bool.and_eq_true_iff.2 ⟨cf0,cf1⟩),cf2⟩),cf3⟩),cf4⟩),cf5⟩),cf6⟩),cf7⟩),cf8⟩),cf9⟩),aCj⟩),aCk⟩),aCl⟩),aCm⟩),aCn⟩),aCo⟩),aCp⟩),aCq⟩),aCr⟩),aCs⟩),aCt⟩),aCu⟩),aCv⟩),aCw⟩),aCx⟩),aCy⟩),aCz⟩),aCA⟩),aCB⟩),aCC⟩),aCD⟩),aCE⟩)
theorem inst:Try.f12.isInstance Try.prog Rows.isaDefaultMatchesSpecRow.origin Rows.isaDefaultMatchesSpecRow.targs:=dW aV
theorem Vw : ¬ (Check.packageOf Try.f12.name = "main") := of_decide_eq_false aV
theorem wrapper:Try.f12.isWrapper Try.prog Rows.isaDefaultMatchesSpecRow.wrapper Rows.isaDefaultMatchesSpecRow.mainSum:=by
 unfold Func.isWrapper
 rw [if_neg Vw];exact ⟨rfl,rfl⟩
theorem over:Rows.isaDefaultMatchesSpecRow.holds Try.pinned (OpenSpec.ofChange Rows.isaDefaultMatchesSpecSpec) :=
 OpenClaim.holds_of_wide 12 Try.f12 rfl rfl rfl rfl rfl rfl rfl ⟨rfl,rfl,rfl,rfl,rfl⟩ rfl rfl rfl rfl rfl aV Try.func12 joined inst wrapper
  (fun os started H enc _=>lifted os started H enc)
theorem proved:Rows.IsaDefaultMatchesSpecSaid:=over
#print axioms proved
end Go.Proofs.Ytipjpdiianopcaa.isaDefaultMatchesSpec
namespace Go.Proofs.Ytipjpdiianopcaa
theorem isaDefaultMatchesSpec_holds:Rows.IsaDefaultMatchesSpecSaid:=isaDefaultMatchesSpec.proved
end Go.Proofs.Ytipjpdiianopcaa
