/- Words and contracts for the laws of encode. -/
import Derived.Test.YtipjpdiianopcaaRows
import Derived.Test.YtipjpdiianopcaaqBn10
import Derived.Test.YtipjpdiianopcaaqPureEncodeInjective
import Derived.Test.YtipjpdiianopcaaqCrx
import Derived.Test.YtipjpdiianopcaaK1
import Derived.Test.YtipjpdiianopcaaK2
import Derived.Test.YtipjpdiianopcaaK3
import Derived.Test.YtipjpdiianopcaaqCrow
import Derived.JoinedOf
import Derived.KernelRfl
import Derived.WalkKit
import Derived.ProofKit
import Derived.OpenShut
import Derived.ShutString
import Derived.ChangeOld
import Derived.Below
import Derived.SizedLaws
import Derived.Test.YtipjpdiianopcaaqWM
set_option linter.unusedSimpArgs false
namespace Go.Proofs.Ytipjpdiianopcaa.encodeInjective
open Go.ChangeShapes Go.WideShapes Go.ChangeAt Go.RowKit
open Go.ChangeMaps (open_string shut_string)
open Go.Proofs.YtipjpdiianopcaaW.dF
set_option linter.unusedVariables false
theorem own:ownKnob Try.prog.godebug=none:=by kernel_rfl
theorem laidOut:laidOutB Try.prog=true:=by kernel_rfl
def bKI (k:IntKind) (w:World) (a:Option Addr) (len cap:Nat) (zs:List Int):Prop :=
 (a=none∧len=0∧cap=0∧zs=[]) ∨
 ∃ x,a=some x∧len≤cap∧cap≤maxLen∧zs.length=cap∧(∀ i,i<zs.length→w.cell? (x.add i)=some (.int k (zs.getD i 0)))∧∀ n ∈ zs,(Lit.int k n).wf=true
set_option maxRecDepth 100000 in
theorem lifted (os:Os) (started:os.Started) (H:Type) (enc:TypeId × Value→H) :
  ReturnsInHanded {} Try.checked os 18 .any (Rows.encodeInjectiveSpec.pre6 enc Try.prog Try.f18 Rows.encodeInjectiveRow.domain false) (Rows.encodeInjectiveSpec.post enc Try.prog Try.f18 false true false false):=by
 refine returnsInHanded_of_change_sized (C:=Try.checked) own started aQ Try.func18
  (ChangeSpec.witness6 (enc:=enc) (C:=Try.checked) false ⟨#[],#[.slice none 0 0,.agg #[.int .i64 0,.slice none 0 0],.agg #[.int .i64 0,.slice none 0 0]],[]⟩ 8 aQ aQ aQ aQ) ?_
 intro W base args ds gs before hval0 hW hcnd hsz0 _
 have hsz:(DataW.weightsEach Try.prog (Try.f18.params.toList ++ Rows.encodeInjectiveSpec.plain.varTypes Try.prog) (ds ++ gs)).all (·≤reachBytes)=true:=hsz0
 have hval:∀ (j:Nat) t v,Try.f18.params[j]?=some t→args[j]?=some v→Value.okWide Try.prog W .any base t v:=hval0
 have hW':=hW
 obtain ⟨p,q,hA0,hV,rfl,hfz,hnd⟩:=hW
 have hA:DataW.TrodAll enc Try.prog W 0 (fun _=>true) true Try.f18.params.toList args.toList ds p:=hA0
 rw [Try.params18] at hA hval hsz
 obtain ⟨v0,vs0,d0,ds0,p0,q0,hargs,rfl,rfl,h0,r0⟩:=trodAll_cons hA
 obtain ⟨v1,vs1,d1,ds1,p1,q1,rfl,rfl,rfl,h1,r1⟩:=trodAll_cons r0
 obtain ⟨v2,vs2,d2,ds2,p2,q2,rfl,rfl,rfl,h2,r2⟩:=trodAll_cons r1
 obtain ⟨rfl,rfl,rfl⟩:=trodAll_nil r2
 obtain rfl:args=#[v0,v1,v2]:=by cases args;simp_all
 obtain ⟨rfl,rfl⟩:=trodVars_none hV
 obtain ⟨a0,len0,cap0,rfl⟩:=okWide_slice Try.underlying47 (hval 0 47 v0 rfl rfl)
 have k0:=h0
 have lt0:∀ x ∈ p0,x.block<W.heap.size:=by obtain ⟨m,hm⟩:=k0;exact DataW.trod_lt m _ _ _ hm
 have hz0:∀ n ∈ d0.weights Try.prog 47,n≤140737488351232:=fun n hn=>dU (List.all_eq_true.1 hsz n (DataW.weights_mem_each (j:=0) rfl rfl n hn))
 obtain ⟨l0,rfl,hr0,hc0,hm0,bH2,hq0⟩:∃ l:List A.nJ,len0=l.length∧Kd.C A.Nv W a0 l.length l∧l.length≤cap0∧l.length≤maxLen∧(∀ f ∈ l,NK.YN f)∧((∀ n ∈ d0.weights Try.prog 47,n≤140737488351232)→l.length*48≤140737488351232∧∀ f ∈ l,NK.GL f):=by
  obtain ⟨fuel,hf⟩:=h0
  exact NK.aIm hf
 obtain ⟨cs1,rfl,hs1⟩:=okWide_struct Try.underlying65 (hval 1 65 v1 rfl rfl)
 have k1:=h1
 have lt1:∀ x ∈ p1,x.block<W.heap.size:=by obtain ⟨m,hm⟩:=k1;exact DataW.trod_lt m _ _ _ hm
 have hz1:∀ n ∈ d1.weights Try.prog 65,n≤140737488351232:=fun n hn=>dU (List.all_eq_true.1 hsz n (DataW.weights_mem_each (j:=1) rfl rfl n hn))
 obtain ⟨f1,c1,A1,l1,rfl,hr1,hc1,bH3,hq1⟩:=NK.aN6 hs1 h1
 obtain ⟨cs2,rfl,hs2⟩:=okWide_struct Try.underlying65 (hval 2 65 v2 rfl rfl)
 have k2:=h2
 have lt2:∀ x ∈ p2,x.block<W.heap.size:=by obtain ⟨m,hm⟩:=k2;exact DataW.trod_lt m _ _ _ hm
 have hz2:∀ n ∈ d2.weights Try.prog 65,n≤140737488351232:=fun n hn=>dU (List.all_eq_true.1 hsz n (DataW.weights_mem_each (j:=2) rfl rfl n hn))
 obtain ⟨f2,c2,A2,l2,rfl,hr2,hc2,bNy,hq2⟩:=NK.aN6 hs2 h2
 clear hA0 hval0 hsz0 hsz
 obtain ⟨k,hf⟩:=Pure.EncodeInjective l0 bH2 (hq0 hz0).1 (hq0 hz0).2 f1 l1 bH3 (hq1 hz1) f2 l2 bNy (hq2 hz2)
 refine (E.dS.calls k _ _ l0 f1 A1 c1 l1 f2 A2 c2 l2 true W hr0 hc0 hr1 hc1 hr2 hc2 rfl hf).mono fun e W' ⟨he,bel⟩=>?_
 subst he
 exact ⟨_,rfl,_,_,_,[],_,[],hW',trodAll_mk1 (shut_bool Try.underlying4 _),(trodAll_cons_mk (Below.trod laidOut aQ (dU aQ) k0 bel lt0) (trodAll_cons_mk (Below.trod laidOut aQ (dU aQ) k1 bel lt1) (trodAll_cons_mk (Below.trod laidOut aQ (dU aQ) k2 bel lt2) trodAll_mk0))),rfl,bel.frame _,fun h=>by cases h⟩
theorem cf0:(Rows.encodeInjectiveRow.wf (OpenSpec.ofChange Rows.encodeInjectiveSpec))=true:=by kernel_rfl
theorem cf1:(laidOutB Try.prog)=true:=by kernel_rfl
theorem cf2:(mapsRowed Try.prog)=true:=by kernel_rfl
theorem cf3:(Try.f18.params.all (Try.prog.readableRec ·))=true:=by kernel_rfl
theorem cf4:(namedTie Try.prog Rows.encodeInjectiveRow.named Rows.encodeInjectiveSpec.vars)=true:=by kernel_rfl
theorem cf5:((Rows.encodeInjectiveRow.stops==[]))=true:=by kernel_rfl
theorem cf6:((Try.prog.stops==[]))=true:=by kernel_rfl
theorem cf7:((Rows.encodeInjectiveRow.knobs==[]))=true:=by kernel_rfl
theorem cf8:((Try.prog.stopKnobs==[]))=true:=by kernel_rfl
theorem cf9:((Rows.encodeInjectiveRow.inPlace==Try.prog.inPlace 18))=true:=by kernel_rfl
theorem bH4:((Rows.encodeInjectiveRow.unfollowed==Try.prog.unfollowed 18))=true:=by kernel_rfl
theorem bH5:((Rows.encodeInjectiveRow.recurses==Try.prog.recurses 18))=true:=by kernel_rfl
theorem bH6:((Rows.encodeInjectiveRow.named==Try.prog.varsNamed 18))=true:=by kernel_rfl
theorem bH7:((Rows.encodeInjectiveRow.maps==(Try.f18.params.toList ++ Rows.encodeInjectiveSpec.plain.varTypes Try.prog).any (Try.prog.mapsRec ·)))=true:=by kernel_rfl
theorem bH8:((Rows.encodeInjectiveRow.ifaces==(Try.f18.params.toList ++ Rows.encodeInjectiveSpec.plain.varTypes Try.prog).any (Try.prog.ifacesRec ·)))=true:=by kernel_rfl
theorem bH9:((Rows.encodeInjectiveRow.mapsOut==Try.prog.mapsAmong Try.f18.resultTypes.toList))=true:=by kernel_rfl
theorem bH_:((Rows.encodeInjectiveRow.loops==(Try.f18.params.toList ++ Rows.encodeInjectiveSpec.plain.varTypes Try.prog).any (Try.prog.loopsFrom ·)))=true:=by kernel_rfl
theorem bIa:((Rows.encodeInjectiveRow.wideKeys==(Try.f18.params.toList ++ Rows.encodeInjectiveSpec.plain.varTypes Try.prog ++ Try.f18.resultTypes.toList).any (Try.prog.wideKeysFrom ·)))=true:=by kernel_rfl
theorem bIb:(Rows.encodeInjectiveSpec.vars.all (Try.prog.varReadable ·))=true:=by kernel_rfl
theorem bIc:(Try.f18.resultTypes.all (fun t=>Try.prog.readableRec t&&decide (t<Try.prog.types.size)))=true:=by kernel_rfl
theorem bId:((Rows.encodeInjectiveRow.ifacesOut==Try.f18.resultTypes.toList.any (Try.prog.ifacesRec ·)))=true:=by kernel_rfl
theorem bIe:((Rows.encodeInjectiveRow.loopsOut==Try.f18.resultTypes.toList.any (Try.prog.loopsFrom ·)))=true:=by kernel_rfl
theorem bIf:((Rows.encodeInjectiveRow.plainKeys==Try.prog.plainKeys))=true:=by kernel_rfl
theorem bIg:(Rows.encodeInjectiveRow.shortTexts.isNone)=true:=by kernel_rfl
theorem bIh:(Try.prog.stopsHeard)=true:=by kernel_rfl
theorem bIi:(Try.prog.mayEnter)=true:=K.mayEnter
theorem bIj:((Rows.encodeInjectiveRow.lifted==Try.prog.liftsFinal))=true:=K.lifted
theorem bIk:((Try.prog.make==some Rows.encodeInjectiveRow.make))=true:=K.made
theorem bIl:((Rows.encodeInjectiveRow.kinds==(if Rows.encodeInjectiveRow.domain.isEmpty then [] else Try.f18.params.toList.map fun t=>match Try.prog.underlying t with|some (.int k)=>some k|_=>none)))=true:=by kernel_rfl
theorem bIm:((Rows.encodeInjectiveRow.pinned==Rows.encodeInjectiveRow.pinnedBy))=true:=by kernel_rfl
theorem bIn:((Rows.encodeInjectiveRow.veiled==(Try.f18.params.toList ++ Rows.encodeInjectiveSpec.plain.varTypes Try.prog ++ Try.f18.resultTypes.toList).any (Try.prog.veiledRec ·)))=true:=by kernel_rfl
theorem bIo:(Rows.encodeInjectiveRow.veiledFits Try.prog Try.f18.params.toList (Try.f18.params.toList ++ Rows.encodeInjectiveSpec.plain.varTypes Try.prog ++ Try.f18.resultTypes.toList))=true:=by kernel_rfl
set_option maxRecDepth 100000 in
theorem joined:joinedFacts Try.prog 18 Try.f18 Rows.encodeInjectiveSpec Rows.encodeInjectiveRow=true:=by
 unfold joinedFacts
 exact (Bool.and_eq_true_iff.2 ⟨(Bool.and_eq_true_iff.2 ⟨(Bool.and_eq_true_iff.2 ⟨(Bool.and_eq_true_iff.2 ⟨(Bool.and_eq_true_iff.2 ⟨(Bool.and_eq_true_iff.2 ⟨(Bool.and_eq_true_iff.2 ⟨(Bool.and_eq_true_iff.2 ⟨(Bool.and_eq_true_iff.2 ⟨(Bool.and_eq_true_iff.2 ⟨(Bool.and_eq_true_iff.2 ⟨(Bool.and_eq_true_iff.2 ⟨(Bool.and_eq_true_iff.2 ⟨(Bool.and_eq_true_iff.2 ⟨(Bool.and_eq_true_iff.2 ⟨(Bool.and_eq_true_iff.2 ⟨(Bool.and_eq_true_iff.2 ⟨(Bool.and_eq_true_iff.2 ⟨(Bool.and_eq_true_iff.2 ⟨(Bool.and_eq_true_iff.2 ⟨(Bool.and_eq_true_iff.2 ⟨(Bool.and_eq_true_iff.2 ⟨(Bool.and_eq_true_iff.2 ⟨(Bool.and_eq_true_iff.2 ⟨(Bool.and_eq_true_iff.2 ⟨(Bool.and_eq_true_iff.2 ⟨(Bool.and_eq_true_iff.2 ⟨(Bool.and_eq_true_iff.2 ⟨(Bool.and_eq_true_iff.2 ⟨(Bool.and_eq_true_iff.2 ⟨(Bool.and_eq_true_iff.2 ⟨cf0,cf1⟩),cf2⟩),cf3⟩),cf4⟩),cf5⟩),cf6⟩),cf7⟩),cf8⟩),cf9⟩),bH4⟩),bH5⟩),bH6⟩),bH7⟩),bH8⟩),bH9⟩),bH_⟩),bIa⟩),bIb⟩),bIc⟩),bId⟩),bIe⟩),bIf⟩),bIg⟩),bIh⟩),bIi⟩),bIj⟩),bIk⟩),bIl⟩),bIm⟩),bIn⟩),bIo⟩)
theorem inst:Try.f18.isInstance Try.prog Rows.encodeInjectiveRow.origin Rows.encodeInjectiveRow.targs:=dU aQ
theorem bAC : ¬ (Check.packageOf Try.f18.name = "main") := of_decide_eq_false aQ
theorem wrapper:Try.f18.isWrapper Try.prog Rows.encodeInjectiveRow.wrapper Rows.encodeInjectiveRow.mainSum:=by
 unfold Func.isWrapper
 rw [if_neg bAC];exact ⟨rfl,rfl⟩
theorem over:Rows.encodeInjectiveRow.holds Try.pinned (OpenSpec.ofChange Rows.encodeInjectiveSpec) :=
 OpenClaim.holds_of_wide 18 Try.f18 rfl rfl rfl rfl rfl rfl rfl ⟨rfl,rfl,rfl,rfl,rfl⟩ rfl rfl rfl rfl rfl aQ Try.func18 joined inst wrapper
  (fun os started H enc _=>lifted os started H enc)
theorem proved:Rows.EncodeInjectiveSaid:=over
#print axioms proved
end Go.Proofs.Ytipjpdiianopcaa.encodeInjective
namespace Go.Proofs.Ytipjpdiianopcaa
theorem encodeInjective_holds:Rows.EncodeInjectiveSaid:=encodeInjective.proved
end Go.Proofs.Ytipjpdiianopcaa
