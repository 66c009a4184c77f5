/- Words and contracts for the laws of encode. -/
import Derived.Test.YtipjpdiianopcaaRows
import Derived.Test.YtipjpdiianopcaaqBn12
import Derived.Test.YtipjpdiianopcaaqPureDecodeUnique
import Derived.Test.YtipjpdiianopcaaK1
import Derived.Test.YtipjpdiianopcaaK2
import Derived.Test.YtipjpdiianopcaaK3
import Derived.Test.YtipjpdiianopcaaqCrow
import Derived.JoinedOf
import Derived.KernelRfl
import Derived.WalkKit
import Derived.ProofKit
import Derived.OpenShut
import Derived.ShutString
import Derived.ChangeOld
import Derived.Below
import Derived.SizedLaws
import Derived.Test.YtipjpdiianopcaaqWM
set_option linter.unusedSimpArgs false
namespace Go.Proofs.Ytipjpdiianopcaa.decodeUnique
open Go.ChangeShapes Go.WideShapes Go.ChangeAt Go.RowKit
open Go.ChangeMaps (open_string shut_string)
open Go.Proofs.YtipjpdiianopcaaW.dF
set_option linter.unusedVariables false
theorem own:ownKnob Try.prog.godebug=none:=by kernel_rfl
theorem laidOut:laidOutB Try.prog=true:=by kernel_rfl
def bKI (k:IntKind) (w:World) (a:Option Addr) (len cap:Nat) (zs:List Int):Prop :=
 (a=none∧len=0∧cap=0∧zs=[]) ∨
 ∃ x,a=some x∧len≤cap∧cap≤maxLen∧zs.length=cap∧(∀ i,i<zs.length→w.cell? (x.add i)=some (.int k (zs.getD i 0)))∧∀ n ∈ zs,(Lit.int k n).wf=true
set_option maxRecDepth 100000 in
theorem lifted (os:Os) (started:os.Started) (H:Type) (enc:TypeId × Value→H) :
  ReturnsInHanded {} Try.checked os 19 .any (Rows.decodeUniqueSpec.pre6 enc Try.prog Try.f19 Rows.decodeUniqueRow.domain false) (Rows.decodeUniqueSpec.post enc Try.prog Try.f19 false true false false):=by
 refine returnsInHanded_of_change_sized (C:=Try.checked) own started aQ Try.func19
  (ChangeSpec.witness6 (enc:=enc) (C:=Try.checked) false ⟨#[],#[.slice none 0 0,.slice none 0 0,.int .i64 0],[]⟩ 8 aQ aQ aQ aQ) ?_
 intro W base args ds gs before hval0 hW hcnd hsz0 _
 have hsz:(DataW.weightsEach Try.prog (Try.f19.params.toList ++ Rows.decodeUniqueSpec.plain.varTypes Try.prog) (ds ++ gs)).all (·≤reachBytes)=true:=hsz0
 have hval:∀ (j:Nat) t v,Try.f19.params[j]?=some t→args[j]?=some v→Value.okWide Try.prog W .any base t v:=hval0
 have hW':=hW
 obtain ⟨p,q,hA0,hV,rfl,hfz,hnd⟩:=hW
 have hA:DataW.TrodAll enc Try.prog W 0 (fun _=>true) true Try.f19.params.toList args.toList ds p:=hA0
 rw [Try.params19] at hA hval hsz
 obtain ⟨v0,vs0,d0,ds0,p0,q0,hargs,rfl,rfl,h0,r0⟩:=trodAll_cons hA
 obtain ⟨v1,vs1,d1,ds1,p1,q1,rfl,rfl,rfl,h1,r1⟩:=trodAll_cons r0
 obtain ⟨v2,vs2,d2,ds2,p2,q2,rfl,rfl,rfl,h2,r2⟩:=trodAll_cons r1
 obtain ⟨rfl,rfl,rfl⟩:=trodAll_nil r2
 obtain rfl:args=#[v0,v1,v2]:=by cases args;simp_all
 obtain ⟨rfl,rfl⟩:=trodVars_none hV
 obtain ⟨a0,len0,cap0,rfl⟩:=okWide_slice Try.underlying47 (hval 0 47 v0 rfl rfl)
 have k0:=h0
 have lt0:∀ x ∈ p0,x.block<W.heap.size:=by obtain ⟨m,hm⟩:=k0;exact DataW.trod_lt m _ _ _ hm
 have hz0:∀ n ∈ d0.weights Try.prog 47,n≤140737488351232:=fun n hn=>dU (List.all_eq_true.1 hsz n (DataW.weights_mem_each (j:=0) rfl rfl n hn))
 obtain ⟨l0,rfl,hr0,hc0,hm0,bH2,hq0⟩:∃ l:List A.nJ,len0=l.length∧Kd.C A.Nv W a0 l.length l∧l.length≤cap0∧l.length≤maxLen∧(∀ f ∈ l,NK.YN f)∧((∀ n ∈ d0.weights Try.prog 47,n≤140737488351232)→l.length*48≤140737488351232∧∀ f ∈ l,NK.GL f):=by
  obtain ⟨fuel,hf⟩:=h0
  exact NK.aIm hf
 obtain ⟨a1,len1,cap1,rfl⟩:=okWide_slice Try.underlying25 (hval 1 25 v1 rfl rfl)
 have k1:=h1
 have lt1:∀ x ∈ p1,x.block<W.heap.size:=by obtain ⟨m,hm⟩:=k1;exact DataW.trod_lt m _ _ _ hm
 obtain ⟨z1,w1⟩:∃ zs,bKI .u8 W a1 len1 cap1 zs:=by
  obtain ⟨fuel,hf⟩:=h1
  rcases open_ints Try.underlying25 Try.underlying5 aQ hf with ⟨hcs,_⟩|⟨x,l,c,zs,hcs,_,hl,hm,hz,_,hcell,hwz⟩
  ·simp [Value.cells] at hcs
   obtain ⟨rfl,rfl,rfl⟩:=hcs;exact ⟨[],.inl ⟨rfl,rfl,rfl,rfl⟩⟩
  ·simp [Value.cells] at hcs
   obtain ⟨rfl,rfl,rfl⟩:=hcs;exact ⟨zs,.inr ⟨_,rfl,hl,hm,by simpa using hz,hcell,hwz⟩⟩
 have y1:len1*1≤140737488351232:=Go.Proofs.YtipjpdiianopcaaW.dF.sized_ints hsz (j:=1) (t:=25) rfl rfl Try.underlying25 Try.underlying5 aQ aQ h1
 obtain ⟨l1,rfl,hr1,hm1,hw1,hc1⟩:=pJ.aT1 w1
 obtain ⟨a2,rfl,rfl,rfl,w2⟩:=open_int Try.underlying3 (hval 2 3 v2 rfl rfl) h2
 clear hA0 hval0 hsz0 hsz
 obtain ⟨k,hf⟩:=Pure.DecodeUnique l0 bH2 (hq0 hz0).1 (hq0 hz0).2 l1 y1 hw1 a2 w2
 refine (E.Cc.calls k _ _ l0 _ _ l1 a2 true W hr0 hc0 (Kd.zU (d:=(0:Int)) (h1:=fun _=>rfl) hr1) hc1 rfl hf).mono fun e W' ⟨he,bel⟩=>?_
 subst he
 exact ⟨_,rfl,_,_,_,[],_,[],hW',trodAll_mk1 (shut_bool Try.underlying4 _),(trodAll_cons_mk (Below.trod laidOut aQ (dU aQ) k0 bel lt0) (trodAll_cons_mk (Below.trod laidOut aQ (dU aQ) k1 bel lt1) (trodAll_cons_mk (shut_int Try.underlying3 w2) trodAll_mk0))),rfl,bel.frame _,fun h=>by cases h⟩
theorem cf0:(Rows.decodeUniqueRow.wf (OpenSpec.ofChange Rows.decodeUniqueSpec))=true:=by kernel_rfl
theorem cf1:(laidOutB Try.prog)=true:=by kernel_rfl
theorem cf2:(mapsRowed Try.prog)=true:=by kernel_rfl
theorem cf3:(Try.f19.params.all (Try.prog.readableRec ·))=true:=by kernel_rfl
theorem cf4:(namedTie Try.prog Rows.decodeUniqueRow.named Rows.decodeUniqueSpec.vars)=true:=by kernel_rfl
theorem cf5:((Rows.decodeUniqueRow.stops==[]))=true:=by kernel_rfl
theorem cf6:((Try.prog.stops==[]))=true:=by kernel_rfl
theorem cf7:((Rows.decodeUniqueRow.knobs==[]))=true:=by kernel_rfl
theorem cf8:((Try.prog.stopKnobs==[]))=true:=by kernel_rfl
theorem cf9:((Rows.decodeUniqueRow.inPlace==Try.prog.inPlace 19))=true:=by kernel_rfl
theorem bH4:((Rows.decodeUniqueRow.unfollowed==Try.prog.unfollowed 19))=true:=by kernel_rfl
theorem bH5:((Rows.decodeUniqueRow.recurses==Try.prog.recurses 19))=true:=by kernel_rfl
theorem bH6:((Rows.decodeUniqueRow.named==Try.prog.varsNamed 19))=true:=by kernel_rfl
theorem bH7:((Rows.decodeUniqueRow.maps==(Try.f19.params.toList ++ Rows.decodeUniqueSpec.plain.varTypes Try.prog).any (Try.prog.mapsRec ·)))=true:=by kernel_rfl
theorem bH8:((Rows.decodeUniqueRow.ifaces==(Try.f19.params.toList ++ Rows.decodeUniqueSpec.plain.varTypes Try.prog).any (Try.prog.ifacesRec ·)))=true:=by kernel_rfl
theorem bH9:((Rows.decodeUniqueRow.mapsOut==Try.prog.mapsAmong Try.f19.resultTypes.toList))=true:=by kernel_rfl
theorem bH_:((Rows.decodeUniqueRow.loops==(Try.f19.params.toList ++ Rows.decodeUniqueSpec.plain.varTypes Try.prog).any (Try.prog.loopsFrom ·)))=true:=by kernel_rfl
theorem bIa:((Rows.decodeUniqueRow.wideKeys==(Try.f19.params.toList ++ Rows.decodeUniqueSpec.plain.varTypes Try.prog ++ Try.f19.resultTypes.toList).any (Try.prog.wideKeysFrom ·)))=true:=by kernel_rfl
theorem bIb:(Rows.decodeUniqueSpec.vars.all (Try.prog.varReadable ·))=true:=by kernel_rfl
theorem bIc:(Try.f19.resultTypes.all (fun t=>Try.prog.readableRec t&&decide (t<Try.prog.types.size)))=true:=by kernel_rfl
theorem bId:((Rows.decodeUniqueRow.ifacesOut==Try.f19.resultTypes.toList.any (Try.prog.ifacesRec ·)))=true:=by kernel_rfl
theorem bIe:((Rows.decodeUniqueRow.loopsOut==Try.f19.resultTypes.toList.any (Try.prog.loopsFrom ·)))=true:=by kernel_rfl
theorem bIf:((Rows.decodeUniqueRow.plainKeys==Try.prog.plainKeys))=true:=by kernel_rfl
theorem bIg:(Rows.decodeUniqueRow.shortTexts.isNone)=true:=by kernel_rfl
theorem bIh:(Try.prog.stopsHeard)=true:=by kernel_rfl
theorem bIi:(Try.prog.mayEnter)=true:=K.mayEnter
theorem bIj:((Rows.decodeUniqueRow.lifted==Try.prog.liftsFinal))=true:=K.lifted
theorem bIk:((Try.prog.make==some Rows.decodeUniqueRow.make))=true:=K.made
theorem bIl:((Rows.decodeUniqueRow.kinds==(if Rows.decodeUniqueRow.domain.isEmpty then [] else Try.f19.params.toList.map fun t=>match Try.prog.underlying t with|some (.int k)=>some k|_=>none)))=true:=by kernel_rfl
theorem bIm:((Rows.decodeUniqueRow.pinned==Rows.decodeUniqueRow.pinnedBy))=true:=by kernel_rfl
theorem bIn:((Rows.decodeUniqueRow.veiled==(Try.f19.params.toList ++ Rows.decodeUniqueSpec.plain.varTypes Try.prog ++ Try.f19.resultTypes.toList).any (Try.prog.veiledRec ·)))=true:=by kernel_rfl
theorem bIo:(Rows.decodeUniqueRow.veiledFits Try.prog Try.f19.params.toList (Try.f19.params.toList ++ Rows.decodeUniqueSpec.plain.varTypes Try.prog ++ Try.f19.resultTypes.toList))=true:=by kernel_rfl
set_option maxRecDepth 100000 in
theorem joined:joinedFacts Try.prog 19 Try.f19 Rows.decodeUniqueSpec Rows.decodeUniqueRow=true:=by
 unfold joinedFacts
 exact (Bool.and_eq_true_iff.2 ⟨(Bool.and_eq_true_iff.2 ⟨(Bool.and_eq_true_iff.2 ⟨(Bool.and_eq_true_iff.2 ⟨(Bool.and_eq_true_iff.2 ⟨(Bool.and_eq_true_iff.2 ⟨(Bool.and_eq_true_iff.2 ⟨(Bool.and_eq_true_iff.2 ⟨(Bool.and_eq_true_iff.2 ⟨(Bool.and_eq_true_iff.2 ⟨(Bool.and_eq_true_iff.2 ⟨(Bool.and_eq_true_iff.2 ⟨(Bool.and_eq_true_iff.2 ⟨(Bool.and_eq_true_iff.2 ⟨(Bool.and_eq_true_iff.2 ⟨(Bool.and_eq_true_iff.2 ⟨(Bool.and_eq_true_iff.2 ⟨(Bool.and_eq_true_iff.2 ⟨(Bool.and_eq_true_iff.2 ⟨(Bool.and_eq_true_iff.2 ⟨(Bool.and_eq_true_iff.2 ⟨(Bool.and_eq_true_iff.2 ⟨(Bool.and_eq_true_iff.2 ⟨(Bool.and_eq_true_iff.2 ⟨(Bool.and_eq_true_iff.2 ⟨(Bool.and_eq_true_iff.2 ⟨(Bool.and_eq_true_iff.2 ⟨(Bool.and_eq_true_iff.2 ⟨(Bool.and_eq_true_iff.2 ⟨(Bool.and_eq_true_iff.2 ⟨(Bool.and_eq_true_iff.2 ⟨cf0,cf1⟩),cf2⟩),cf3⟩),cf4⟩),cf5⟩),cf6⟩),cf7⟩),cf8⟩),cf9⟩),bH4⟩),bH5⟩),bH6⟩),bH7⟩),bH8⟩),bH9⟩),bH_⟩),bIa⟩),bIb⟩),bIc⟩),bId⟩),bIe⟩),bIf⟩),bIg⟩),bIh⟩),bIi⟩),bIj⟩),bIk⟩),bIl⟩),bIm⟩),bIn⟩),bIo⟩)
theorem inst:Try.f19.isInstance Try.prog Rows.decodeUniqueRow.origin Rows.decodeUniqueRow.targs:=dU aQ
theorem bAC : ¬ (Check.packageOf Try.f19.name = "main") := of_decide_eq_false aQ
theorem wrapper:Try.f19.isWrapper Try.prog Rows.decodeUniqueRow.wrapper Rows.decodeUniqueRow.mainSum:=by
 unfold Func.isWrapper
 rw [if_neg bAC];exact ⟨rfl,rfl⟩
theorem over:Rows.decodeUniqueRow.holds Try.pinned (OpenSpec.ofChange Rows.decodeUniqueSpec) :=
 OpenClaim.holds_of_wide 19 Try.f19 rfl rfl rfl rfl rfl rfl rfl ⟨rfl,rfl,rfl,rfl,rfl⟩ rfl rfl rfl rfl rfl aQ Try.func19 joined inst wrapper
  (fun os started H enc _=>lifted os started H enc)
theorem proved:Rows.DecodeUniqueSaid:=over
#print axioms proved
end Go.Proofs.Ytipjpdiianopcaa.decodeUnique
namespace Go.Proofs.Ytipjpdiianopcaa
theorem decodeUnique_holds:Rows.DecodeUniqueSaid:=decodeUnique.proved
end Go.Proofs.Ytipjpdiianopcaa
