/- Words and contracts for the laws of encode. -/
import Derived.Test.YtipjpdiianopcaaqPl
set_option linter.unusedVariables false
set_option linter.unusedSimpArgs false
namespace Go.Proofs.Ytipjpdiianopcaa.Cby
open Go.RowKit Go.Shelf Go.Proofs.YtipjpdiianopcaaW.dF Go.Proofs.YtipjpdiianopcaaW.fO Go.Proofs.Ytipjpdiianopcaa.A Go.Proofs.Ytipjpdiianopcaa.Pure Go.Proofs.Ytipjpdiianopcaa.Cl Go.Proofs.Ytipjpdiianopcaa.Ch
attribute [local go_sem] Oper.semAt_some
set_option linter.unusedVariables false
set_option linter.unusedSimpArgs false
def CO (args:List Int) (code:List Int) (pre:List Fl):List Int:=pre.foldl (fun cd x=>VQ cd x (rd args x.arg)) code
theorem aAh (args:List Int):∀ (pre:List Fl) (code:List Int),(CO args code pre).length=code.length
 | [],_=>rfl
 | x :: pre,code=>(aAh args pre _).trans (aKJ _ _ _)
theorem aEi (args code:List Int) (pre:List Fl) (x:Fl):CO args code (pre ++ [x])=VQ (CO args code pre) x (rd args x.arg):=by
 unfold CO
 rw [List.foldl_append]
 rfl
def JX (f:nJ):List Int:=(List.replicate (oH f.f2).toNat (0:Int)).set 0 (f.f1%256)
def IB (w:World) (g m:Nat) (i:Int) (A1:Option Addr) (c1:Nat) (args:List Int) (f:nJ) (lo:Nat) (pre:List (Part f.f2)) (W:World):Prop :=
 (Kd.R (Kd.int .u8) 5 W w.heap.size (fun k=>k=g) (.slice (some ⟨g,0,none⟩) m m) (CO args (JX f) (pre.map Subtype.val))∧W.heap[g+1]?=some (.cells #[.slice (some ⟨g,0,none⟩) m m] 25 (0,0))) ∧
 W.heap[w.heap.size]?=some (.cells #[.int .i64 i,.slice A1 args.length c1] 65 (0,0))∧lo≤W.heap.size∧Below w.heap.size w W
theorem cells_kept {A B:World} {g:Nat} {cs:Array Value} {t:Nat} {row:Option Nat} (h:A.heap[g]?=some (.cells cs t (0,0))) (hg:A.grownBy B row) (hr:∀ r,row=some r→∃ o:Obj,A.heap[r]?=some o∧o.isCells=false):B.heap[g]?=some (.cells cs t (0,0)) :=
 (hg.block g (bU h) (fun he=>by
  obtain ⟨o,ho,hc⟩:=hr g he.symm
  rw [h] at ho
  cases ho
  cases hc)).trans h
theorem aTn (w:World) (g m:Nat) (i:Int) (A1:Option Addr) (c1:Nat) (args:List Int) (f:nJ) (lo:Nat) (B:Nat) (hB:w.heap.size≤B) (hgB:g<B):OwnFrom B (IB w g m i A1 c1 args f lo):=by
 rintro s X Y row ⟨⟨h1,h2⟩,h3,h4,h5⟩ hg hr
 have hr':∀ r,row=some r→∃ o:Obj,X.heap[r]?=some o∧o.isCells=false:=fun r e=>(hr r e).2
 exact ⟨⟨Kd.Tf h1 hg (fun k hk he=>by have:=(hr k he.symm).1;omega),cells_kept h2 hg hr'⟩,cells_kept h3 hg hr',Nat.le_trans h4 hg.size,ownFrom_below (β:=Unit) (Nat.le_refl _) hB () X Y row h5 hg hr⟩
def AxB (B:Nat) (tm:Value→Value→Array Value) (l:List Int) (x:Part l) (a:Act) (W:World):Prop :=
 ∃ g7,B≤g7∧a={ tmps:=tm (.pointer (some ⟨g7,0,none⟩)) (.agg #[.int .i64 x.1.arg,.int .i64 x.1.off,.int .i64 x.1.bytes,.bool x.1.high]),defers:=[] }∧W.heap[g7]?=some (.cells #[.int .i64 x.1.arg,.int .i64 x.1.off,.int .i64 x.1.bytes,.bool x.1.high] 124 (0,0))
theorem aGP (B B':Nat) (tm:Value→Value→Array Value) (l:List Int) (x:Part l) (a:Act):OwnFrom B' (fun (_:Unit) W=>AxB B tm l x a W):=by
 rintro s X Y row ⟨g7,h1,h2,h3⟩ hg hr
 exact ⟨g7,h1,h2,cells_kept h3 hg (fun r e=>(hr r e).2)⟩
theorem aY_ {w w3:World} {g:Nat} {o:Obj} (hb:Below w.heap.size w w3) (h:w3.heap[g]?=some o):g<w3.heap.size:=bU h
theorem aKK (w3:World) (base m:Nat) (hb:base≤w3.heap.size) (hm:m≤9223372036854775807):Kd.R (Kd.int .u8) 5 (w3.alloc (.cells (madeCells #[.int .u8 0] m) 5)) base (fun k=>k=w3.heap.size) (.slice (some ⟨w3.heap.size,0,none⟩) m m) (List.replicate m (0:Int)) :=
 Kd.YC (enc:=Value.int .u8) (h1:=fun _=>rfl) (Ti (enc:=Value.int .u8) (d:=(0:Int)) w3 base 5 m hb hm) (fun k hk=>by simpa [Value.ownBlock] using hk.symm)
theorem aNU {w3:World} {base m:Nat} {xs:List Int} {ok:Nat→Prop} (h:Kd.R (Kd.int .u8) 5 (w3.alloc (.cells (madeCells #[.int .u8 0] m) 5)) base ok (.slice (some ⟨w3.heap.size,0,none⟩) m m) xs) (x:Int) :
  Kd.R (Kd.int .u8) 5 (w3.alloc (.cells ((madeCells #[.int .u8 0] m).setIfInBounds 0 (.int .u8 x)) 5)) base ok (.slice (some ⟨w3.heap.size,0,none⟩) m m) (xs.set 0 x):=by
 have h1:=Kd.XD h 0 x
 have e:(w3.alloc (.cells (madeCells #[.int .u8 0] m) 5)).setCell ⟨w3.heap.size,(0:Int).toNat,none⟩ (.int .u8 x)=w3.alloc (.cells ((madeCells #[.int .u8 0] m).setIfInBounds 0 (.int .u8 x)) 5):=by simp [go_sem]
 rw [e] at h1
 exact h1
set_option maxHeartbeats 4000000 in
set_option maxRecDepth 100000 in
theorem aKL (A0:Option Addr) (c0:Nat) (t:List nJ) (i:Int) (A1:Option Addr) (c1:Nat) (args:List Int) (w:World) (hr0:Kd.C Nv w A0 t.length t) (hc0:t.length≤c0) (hr1:Kd.C (Kd.int .i64) w A1 args.length args) (hc1:args.length≤c1)
  (hi0:0≤i) (hi1:i<(t.length:Int)) (hk4:(aI t i).f2.length≤4) (hkk:∀ x ∈ (aI t i).f2,1≤x∧x≤6) (hla:args.length=(aI t i).f2.length) :
  CallsIn Fence.wide 5 Try.prog 78 #[.slice A0 t.length c0,.agg #[.int .i64 i,.slice A1 args.length c1]] w fun e W' =>
   ∃ v,e=.returned v∧Kd.R (Kd.int .u8) 5 W' w.heap.size (fun _=>True) v (CO args (JX (aI t i)) (lay (aI t i).f2))∧Below w.heap.size w W':=by
 have Jf:=Try.underlying54
 have Kz:=Try.underlying65
 have aBO:=Try.underlying124
 have hF:∀ f,Fence.wide.fn f:=fun _=>trivial
 obtain ⟨ad,A2,c2,e0,hx0,hx1,hx2,hl2,hi2⟩:=rJ hr0 i hi0 hi1
 cases e0
 generalize hf:aI t i=f at *
 have HR1:=aA.mk hr1
 have HI2:=aA.mk hi2
 have HL2:=aA.mk hl2
 have HK:=aA.mk hkk
 have HLA:=aA.mk hla
 have HF:=aA.mk hf
 clear hr1 hi2 hl2 hkk hla hf
 have hb1:=iR (Below.refl w.heap.size w) (.cells #[.int .i64 i,.slice A1 args.length c1] 65)
 have hy0:=(hb1.cell (dM w _ hx0)).trans hx0
 have hy1:=(hb1.cell (dM w _ hx1)).trans hx1
 have hy2:=(hb1.cell (dM w _ hx2)).trans hx2
 clear hx0 hx1 hx2
 have HB1:=aA.mk hb1
 clear hb1
 obtain ⟨m,hm⟩:∃ m:Nat,oH f.f2=(m:Int):=⟨(oH f.f2).toNat,by have:=(ML f.f2 hk4).1;omega⟩
 have hmb:=ML f.f2 hk4
 rw [hm] at hmb
 have HL:=aA.mk (Td f.f0 f.f1 f.f2 (by omega) 2000 (by omega))
 rw [hm] at HL
 have HM:=aA.mk hm
 clear hm
 have hmk:=YD (P:=Try.prog) 25 5 .u8 1 Try.underlying25 info5 (by decide) m (by omega)
 refine callsIn_of_wp_marks Try.func78 rfl trivial ?_ rfl
 simp only [Try.ntmps78,List.size_toArray,List.length_cons,List.length_nil,Nat.reduceAdd,Nat.reduceSub,Array.replicate_succ,Array.replicate_zero,List.push_toArray,List.append_toArray,List.nil_append,List.cons_append]
 gi_wp2_with (gi_at_call 72;refine (callsIn_wide.2 (mQ.calls 2000 f.f0 f.f1 A2 c2 f.f2 _ _ ?fJ HL2.out HL.out)).mono ?_;(case fJ=>repeat (first|exact HI2.out|(with_reducible refine Kd.fG ?_ _)));rintro e w3 ⟨rfl,hb⟩;have HB3:=aA.mk (aT (iR HB1.out _) hb);have B3:=aA.mk (aK (fU (pY w (.cells #[.int .i64 i,.slice A1 args.length c1] 65)) (.cells #[.string f.f0,.int .i64 f.f1,.slice A2 f.f2.length c2] 54)) hb);have bn:=pY (w.alloc (.cells #[.int .i64 i,.slice A1 args.length c1] 65)) (.cells #[.string f.f0,.int .i64 f.f1,.slice A2 f.f2.length c2] 54);rw [World.size_alloc] at bn;have B5:=aA.mk (aK bn hb);clear bn hb;have hz:=aY_ HB3.out B5.out;have B5b:=aA.mk (fU (fU B5.out (.cells (madeCells #[.int .u8 0] m) 5)) (.cells #[.slice (some ⟨w3.heap.size,0,none⟩) m m] 25));have hz0:=aC B5b.out 0;have hz1:=aC B5b.out 1;have hz2:=aC B5b.out 2;rw [show (#[.string f.f0,.int .i64 f.f1,.slice A2 f.f2.length c2]:Array Value)[0]?=some (.string f.f0) from rfl] at hz0;rw [show (#[.string f.f0,.int .i64 f.f1,.slice A2 f.f2.length c2]:Array Value)[1]?=some (.int .i64 f.f1) from rfl] at hz1;rw [show (#[.string f.f0,.int .i64 f.f1,.slice A2 f.f2.length c2]:Array Value)[2]?=some (.slice A2 f.f2.length c2) from rfl] at hz2;have KR:=aA.mk (aKK w3 w.heap.size m HB3.out.size (by omega));have KR4:=aA.mk (Kd.MM KR.out (.cells #[.slice (some ⟨w3.heap.size,0,none⟩) m m] 25));have hq:=Kd.ES (0:Int) KR4.out 0 (by omega) (by omega);have hq0:((w3.alloc (.cells (madeCells #[.int .u8 0] m) 5)).alloc (.cells #[.slice (some ⟨w3.heap.size,0,none⟩) m m] 25)).cell? ⟨w3.heap.size,0,none⟩=some (.int .u8 (aEg (0:Int) (List.replicate m (0:Int)) 0)):=hq.1;have hq1:((w3.alloc (.cells (madeCells #[.int .u8 0] m) 5)).alloc (.cells #[.slice (some ⟨w3.heap.size,0,none⟩) m m] 25)).frozen? ⟨w3.heap.size,0,none⟩=false:=hq.2;clear hq;have B5c:=aA.mk (fU (fU B5.out (.cells ((madeCells #[.int .u8 0] m).setIfInBounds 0 (.int .u8 (f.f1%256))) 5)) (.cells #[.slice (some ⟨w3.heap.size,0,none⟩) m m] 25));have hy3:=(aC B5c.out 0).trans (show (#[.string f.f0,.int .i64 f.f1,.slice A2 f.f2.length c2]:Array Value)[0]?=some (.string f.f0) from rfl);have hy4:=(aC B5c.out 1).trans (show (#[.string f.f0,.int .i64 f.f1,.slice A2 f.f2.length c2]:Array Value)[1]?=some (.int .i64 f.f1) from rfl);have hy5:=(aC B5c.out 2).trans (show (#[.string f.f0,.int .i64 f.f1,.slice A2 f.f2.length c2]:Array Value)[2]?=some (.slice A2 f.f2.length c2) from rfl);have KR5:=aA.mk (aNU KR.out (f.f1%256)))
 refine (aAg _ f.f0 f.f1 A2 f.f2.length c2 _).mono ?_
 rintro e w7 ⟨rfl,rfl⟩
 have HBx:=aA.mk (iR (iR HB3.out (.cells ((madeCells #[.int .u8 0] m).setIfInBounds 0 (.int .u8 (f.f1%256))) 5)) (.cells #[.slice (some ⟨w3.heap.size,0,none⟩) m m] 25))
 have B3x:=aA.mk (fU (fU B3.out (.cells ((madeCells #[.int .u8 0] m).setIfInBounds 0 (.int .u8 (f.f1%256))) 5)) (.cells #[.slice (some ⟨w3.heap.size,0,none⟩) m m] 25))
 have b6x:=pY (w3.alloc (.cells ((madeCells #[.int .u8 0] m).setIfInBounds 0 (.int .u8 (f.f1%256))) 5)) (.cells #[.slice (some ⟨w3.heap.size,0,none⟩) m m] 25)
 rw [World.size_alloc] at b6x
 have B6x:=aA.mk b6x
 have KRx:=aA.mk (Kd.MM KR5.out (.cells #[.slice (some ⟨w3.heap.size,0,none⟩) m m] 25))
 have HG:=aA.mk (show w.heap.size<w3.heap.size from bU B3.out)
 have HS:=aA.mk (show w3.heap.size+1<((w3.alloc (.cells ((madeCells #[.int .u8 0] m).setIfInBounds 0 (.int .u8 (f.f1%256))) 5)).alloc (.cells #[.slice (some ⟨w3.heap.size,0,none⟩) m m] 25)).heap.size by simp)
 clear hz hz0 hz1 hz2 hq0 hq1 hy0 hy1 hy2 hy3 hy4 hy5 B5b KR KR4 KR5 B3 B5 HB3 b6x hmk
 generalize ((w3.alloc (.cells ((madeCells #[.int .u8 0] m).setIfInBounds 0 (.int .u8 (f.f1%256))) 5)).alloc (.cells #[.slice (some ⟨w3.heap.size,0,none⟩) m m] 25))=wx at HBx B3x B6x KRx HS B5c ⊢
 generalize w3.heap.size=g at B6x KRx HG HS ⊢
 clear w3
 gi_wp2_with (fail)
 have bL:=pY wx (.cells #[.string f.f0,.int .i64 f.f1,.slice A2 f.f2.length c2] 54)
 have hlx:wx.heap.size<(wx.alloc (.cells #[.string f.f0,.int .i64 f.f1,.slice A2 f.f2.length c2] 54)).heap.size:=by simp
 have hgx:g<wx.heap.size:=by have:=HS.out;omega
 have hwx:w.heap.size≤wx.heap.size:=HBx.out.size
 have hAl:0<f.f2.length→∀ a,A2=some a→a.block<(wx.alloc (.cells #[.string f.f0,.int .i64 f.f1,.slice A2 f.f2.length c2] 54)).heap.size:=fun hn a e=>by have:=aIj HI2.out hn a e;omega
 have hcode:JX f=(List.replicate m 0).set 0 (f.f1%256):=by unfold JX;rw [HM.out,Int.toNat_natCast]
 have hIx:IB w g m i A1 c1 args f (wx.alloc (.cells #[.string f.f0,.int .i64 f.f1,.slice A2 f.f2.length c2] 54)).heap.size [] (wx.alloc (.cells #[.string f.f0,.int .i64 f.f1,.slice A2 f.f2.length c2] 54)):=⟨⟨by rw [show CO args (JX f) (([]:List (Part f.f2)).map Subtype.val)=_ from hcode];exact Kd.MM KRx.out _,fU B6x.out _⟩,fU B3x.out _,Nat.le_refl _,HBx.out.alloc hwx _⟩
 refine wpIn_rangeFunc_ownH rfl (by decide) (gf:=93) (lb:=#[.pointer (some ⟨wx.heap.size,0,none⟩)]) rfl trivial (enters_of Try.func93 aQ rfl)
  (UQ _ (by decide) wx.heap.size f.f0 f.f1 A2 c2 f.f2 (by omega) _ bL (Kd.dP HI2.out (HBx.out.alloc hwx _))) aGN (aGO hlx hAl) (Below.refl _ _) (fun _=>rfl)
  (IB w g m i A1 c1 args f (wx.alloc (.cells #[.string f.f0,.int .i64 f.f1,.slice A2 f.f2.length c2] 54)).heap.size) (fun _ _ _=>False) (aTn w g m i A1 c1 args f (wx.alloc (.cells #[.string f.f0,.int .i64 f.f1,.slice A2 f.f2.length c2] 54)).heap.size _ (by omega) (by omega)) (fun _ _ _ _ _ hs _ _=>hs) hIx
  (AxB (wx.alloc (.cells #[.string f.f0,.int .i64 f.f1,.slice A2 f.f2.length c2] 54)).heap.size (fun p7 p23=>#[.slice (some ad) t.length c0,.agg #[.int .i64 i,.slice A1 args.length c1],undef,.pointer (some ⟨w.heap.size,0,none⟩),.slice none 0 0,.pointer (some ⟨w.heap.size+1,0,none⟩),.pointer (some ⟨g+1,0,none⟩),p7,.slice (some ad) t.length c0,.pointer (some ⟨w.heap.size,0,none⟩),.int .i64 i,.pointer (some (ad.add (i.toNat*3))),.agg #[.string f.f0,.int .i64 f.f1,.slice A2 f.f2.length c2],.agg #[.string f.f0,.int .i64 f.f1,.slice A2 f.f2.length c2],.int .i64 m,.slice (some ⟨g,0,none⟩) m m,.slice (some ⟨g,0,none⟩) m m,.pointer (some ⟨w.heap.size+1,1,none⟩),.int .i64 f.f1,.int .u8 (f.f1%256),.pointer (some ⟨g,0,none⟩),.agg #[.string f.f0,.int .i64 f.f1,.slice A2 f.f2.length c2],.func (.func 93) #[] #[.pointer (some ⟨wx.heap.size,0,none⟩)],p23,undef,undef,undef,undef,undef,undef,undef,undef,undef,undef]) f.f2) (fun x a'=>aGP _ _ _ _ x a') ?assign ?body ?done ?stop
 case assign =>
  rintro l pre x W K ⟨⟨hKR,h6⟩,h3,hlo,hBe⟩ hK
  gi_wp2
  have hlt:wx.heap.size<W.heap.size:=by omega
  refine hK _ _ ((KeepsOthers.alloc W _).from _) ⟨?_,fun hn a e=>?_⟩ ⟨⟨Kd.MM hKR _,fU h6 _⟩,fU h3 _,Nat.le_trans hlo (by simp),hBe.alloc hBe.size _⟩ ⟨W.heap.size,hlo,rfl,pY W _⟩
  ·exact Below.heap_alloc W _ _ hlt
  ·exact Below.heap_alloc W _ _ (by have:=hAl hn a e;omega)
 case stop =>
  rintro D c pre W _ _ h _
  exact h.elim
 case done =>
  rintro D xs W hD hxs ⟨⟨hKR,h6⟩,h3,hlo,hBe⟩ hdf
  have hc6:W.cell? ⟨g+1,0,none⟩=some (.slice (some ⟨g,0,none⟩) m m):=(aC h6 0).trans rfl
  have hD0:=aA.mk hdf
  rw [hxs] at hKR
  have HR:=aA.mk hKR
  have HBe:=aA.mk hBe
  clear hKR hBe
  gi_wp2_with (fail)
  refine ⟨by simp,.inl ⟨_,_,rfl,run_takeDeferred hD0.out,?_⟩⟩
  have g1:=grownBy_putObj' W D (.deferred none)
  have hlD:D<W.heap.size:=(Array.getElem?_eq_some_iff.1 hD0.out).1
  have hgD:g<D:=by omega
  refine ⟨_,results_tmp rfl _ _ _,_,rfl,Kd.dX (Kd.Tf HR.out g1 (fun k hk he=>by cases he;omega)) (fun _ _=>trivial),HBe.out.trans (belowK_b (w:=w) (Nat.le_refl _) W D _ _ (by omega) hD0.out rfl rfl)⟩
 case body =>
  rintro l pre x a' W hl hrec ⟨⟨hKR,h6⟩,h3,hlo,hBe⟩ ⟨g7,hg7,rfl,h7⟩ hlen
  obtain ⟨hx0,hx1,hx2,hx3,hx4,hx5,hx6⟩:=aKI f.f2 HK.out x.1 x.2
  clear hx5
  have hal:x.1.arg<(args.length:Int):=by rw [HLA.out];exact hx1
  obtain ⟨ad1,e1,hxa⟩:=Kd.jJ (Kd.dP HR1.out hBe) x.1.arg hx0 hal
  cases e1
  have pk0:(0≤x.1.arg)=True:=eq_true hx0
  have pk1:(x.1.arg<(args.length:Int))=True:=eq_true hal
  have HR:=aA.mk hKR
  have HBe:=aA.mk hBe
  have H3:=aA.mk h3
  have H6:=aA.mk h6
  have H7:=aA.mk h7
  have HA:=aA.mk hxa
  clear hKR hBe
  refine wpIn_block ?_
  refine YF (m:=9) (S:=fun w'=>w'.cell? ⟨g+1,0,none⟩=some (.slice (some ⟨g,0,none⟩) m m)∧w'.cell? ⟨g7,0,none⟩=some (.int .i64 x.1.arg)∧w'.cell? ⟨g7,1,none⟩=some (.int .i64 x.1.off)∧w'.cell? ⟨g7,2,none⟩=some (.int .i64 x.1.bytes)∧w'.cell? ⟨g7,3,none⟩=some (.bool x.1.high)∧w'.cell? ⟨w.heap.size,1,none⟩=some (.slice (some ad1) args.length c1)∧w'.cell? (ad1.add x.1.arg.toNat)=some (.int .i64 (rd args x.1.arg))) (ds:=[8]) aQ (by rintro ⟨a,w',h⟩;exact h) #[false,false,false,false,false,false,false,false,false] aQ rfl rfl ⟨(aC h6 0).trans rfl,(aC h7 0).trans rfl,(aC h7 1).trans rfl,(aC h7 2).trans rfl,(aC h7 3).trans rfl,(aC h3 1).trans rfl,hxa⟩ (fun hHeld=>?_)
  clear hxa h3 h6 h7
  refine iQ (i:=0) (N:=some 24) (v:=?_) (a':=?_) #[true,false,false,false,false,false,false,false,false] rfl rfl aQ (fun _ _ _ h=>h) (bG ?_) hHeld ?_ ?_
  rotate_left
  ·rintro w' ⟨s0,s1,s2,s3,s4,s5,s6⟩;go_simp;with_reducible rfl
  rotate_left
  ·simp only [Act.put,aX];rfl
  refine iQ (i:=1) (N:=some 25) (v:=?_) (a':=?_) #[true,true,false,false,false,false,false,false,false] rfl rfl aQ (fun _ _ _ h=>h) (bG ?_) hHeld ?_ ?_
  rotate_left
  ·rintro w' ⟨s0,s1,s2,s3,s4,s5,s6⟩;go_simp;with_reducible rfl
  rotate_left
  ·simp only [Act.put,aX];rfl
  refine bQ (i:=2) (N:=some 26) (v:=?_) (a':=?_) #[true,true,true,false,false,false,false,false,false] rfl rfl aQ (fun _ _ _ h=>h) (bG ?_) ?_ ?_
  rotate_left
  ·intro w';go_simp;with_reducible rfl
  rotate_left
  ·simp only [Act.put,aX];rfl
  refine iQ (i:=3) (N:=some 27) (v:=?_) (a':=?_) #[true,true,true,true,false,false,false,false,false] rfl rfl aQ (fun _ _ _ h=>h) (bG ?_) hHeld ?_ ?_
  rotate_left
  ·rintro w' ⟨s0,s1,s2,s3,s4,s5,s6⟩;go_simp;with_reducible rfl
  rotate_left
  ·simp only [Act.put,aX];rfl
  refine bQ (i:=4) (N:=some 28) (v:=?_) (a':=?_) #[true,true,true,true,true,false,false,false,false] rfl rfl aQ (fun _ _ _ h=>h) (bG ?_) ?_ ?_
  rotate_left
  ·intro w';go_simp;with_reducible rfl
  rotate_left
  ·simp only [Act.put,aX];rfl
  refine iQ (i:=5) (N:=some 29) (v:=?_) (a':=?_) #[true,true,true,true,true,true,false,false,false] rfl rfl aQ (fun _ _ _ h=>h) (bG ?_) hHeld ?_ ?_
  rotate_left
  ·rintro w' ⟨s0,s1,s2,s3,s4,s5,s6⟩;go_simp;with_reducible rfl
  rotate_left
  ·simp only [Act.put,aX];rfl
  refine bQ (i:=6) (N:=some 30) (v:=?_) (a':=?_) #[true,true,true,true,true,true,true,false,false] rfl rfl aQ (fun _ _ _ h=>h) (bG ?_) ?_ ?_
  rotate_left
  ·intro w';go_simp;with_reducible rfl
  rotate_left
  ·simp only [Act.put,aX];rfl
  refine iQ (i:=7) (N:=some 31) (v:=?_) (a':=?_) #[true,true,true,true,true,true,true,true,false] rfl rfl aQ (fun _ _ _ h=>h) (bG ?_) hHeld ?_ ?_
  rotate_left
  ·rintro w' ⟨s0,s1,s2,s3,s4,s5,s6⟩;go_simp;with_reducible rfl
  rotate_left
  ·simp only [Act.put,aX];rfl
  have hcl:(CO args (JX f) (pre.map Subtype.val)).length=m:=by
   rw [aAh,JX,List.length_set,List.length_replicate,HM.out,Int.toNat_natCast]
  have hsz:=HM.out
  have hput:=aZa (CO args (JX f) (pre.map Subtype.val)) x.1 (rd args x.1.arg) (by omega) (by omega) (by omega) hx6 (by omega)
  refine NP (i:=8) (N:=some 32) #[true,true,true,true,true,true,true,true,true] rfl rfl aQ (by decide) (fun K hK=>?_)
  refine xR Try.func88 aQ rfl #[.slice (some ⟨g,0,none⟩) m m,.agg #[.int .i64 x.1.arg,.int .i64 x.1.off,.int .i64 x.1.bytes,.bool x.1.high],.int .i64 (rd args x.1.arg)] (by rfl) rfl rfl (by (try simp only [List.map_toArray,List.map_cons,List.map_nil]);first|done|rfl) ?_
  refine (iJ.calls 10 (fun k=>k=g) _ _ x.1.arg x.1.off x.1.bytes x.1.high (rd args x.1.arg) _ w W.drew (fZ HBe.out) (Kd.qG HR.out) hput).mono ?_
  rintro e w' ⟨rfl,hR',hB',hKt⟩
  refine ⟨_,rfl,?_⟩
  refine hK.out _ _ (sG aQ ?_)
  have hW0:∀ k,k<W.heap.size→k≠g→w'.heap[k]?=W.heap[k]?:=fun k h1 h2=>hKt.2 k h1 h2
  have hWs:W.heap.size≤w'.heap.size:=hKt.1
  refine ⟨⟨hWs,fun k o hk ho hc=>(hW0 k (Array.getElem?_eq_some_iff.1 ho).1 (by omega)).trans ho⟩,⟨hW0 _ (by omega) (by omega),fun hn a e=>?_⟩,⟨⟨?_,(hW0 _ (bU H6.out) (by omega)).trans H6.out⟩,(hW0 _ (bU H3.out) (by have:=HG.out;omega)).trans H3.out,Nat.le_trans hlo hWs,hB'⟩⟩
  ·have h9:=aIj HI2.out hn a e;exact hW0 _ (by omega) (by have:=HG.out;omega)
  ·rw [List.map_append,List.map_cons,List.map_nil,aEi];exact Kd.aTo (fun h=>h) hR' (fun k hk _=>by simpa [Value.ownBlock] using hk.symm)
end Go.Proofs.Ytipjpdiianopcaa.Cby
