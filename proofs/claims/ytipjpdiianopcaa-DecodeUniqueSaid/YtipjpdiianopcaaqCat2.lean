/- Words and contracts for the laws of encode. -/
import Derived.Test.YtipjpdiianopcaaqCat1
import Derived.Test.YtipjpdiianopcaaqCby
set_option linter.unusedVariables false
set_option linter.unusedSimpArgs false
namespace Go.Proofs.Ytipjpdiianopcaa.Cat
open Go.RowKit Go.Shelf Go.Proofs.YtipjpdiianopcaaW.dF Go.Proofs.YtipjpdiianopcaaW.fO Go.Proofs.Ytipjpdiianopcaa.A Go.Proofs.Ytipjpdiianopcaa.Pure Go.Proofs.Ytipjpdiianopcaa.Cl Go.Proofs.Ytipjpdiianopcaa.Cv Go.Proofs.Ytipjpdiianopcaa.Ch Go.Proofs.Ytipjpdiianopcaa.Chw Go.Proofs.Ytipjpdiianopcaa.Cby
attribute [local go_sem] Oper.semAt_some
set_option linter.unusedVariables false
set_option linter.unusedSimpArgs false
def Zi (w:World) (A1:Option Addr) (c1:Nat) (code:List Int) (p j:Int) (f:nJ) (A2:Option Addr) (c2 b4 b5 b6 b7 b8 b10 b11 g:Nat) (args:List Int) (W:World):Prop :=
 (W.heap[b4]?=some (.cells #[.slice A1 code.length c1] 25 (0,0))∧W.heap[b5]?=some (.cells #[.int .i64 p] 3 (0,0))∧W.heap[b6]?=some (.cells #[.int .i64 0,.slice none 0 0] 65 (0,0))∧W.heap[b7]?=some (.cells #[.int .i64 0] 3 (0,0))∧W.heap[b8]?=some (.cells #[.bool false] 4 (0,0))) ∧
 (W.heap[b10]?=some (.cells #[.string f.f0,.int .i64 f.f1,.slice A2 f.f2.length c2] 54 (0,0))∧W.heap[b11]?=some (.cells #[.int .i64 j,.slice (some ⟨g,0,none⟩) f.f2.length f.f2.length] 65 (0,0))) ∧
 Kd.R (Kd.int .i64) 3 W w.heap.size (fun k=>k=g) (.slice (some ⟨g,0,none⟩) f.f2.length f.f2.length) args∧Below w.heap.size w W
section
variable {w:World} {A1:Option Addr} {c1:Nat} {code:List Int} {p j:Int} {f:nJ} {A2:Option Addr} {c2 b4 b5 b6 b7 b8 b10 b11 g:Nat} {args:List Int} {W W':World}
theorem Zi.drew (h:Zi w A1 c1 code p j f A2 c2 b4 b5 b6 b7 b8 b10 b11 g args W):Zi w A1 c1 code p j f A2 c2 b4 b5 b6 b7 b8 b10 b11 g args W.drew :=
 ⟨⟨dY h.1.1,dY h.1.2.1,dY h.1.2.2.1,dY h.1.2.2.2.1,dY h.1.2.2.2.2⟩,⟨dY h.2.1.1,dY h.2.1.2⟩,Kd.qG h.2.2.1,fZ h.2.2.2⟩
theorem Zi.alloc (h:Zi w A1 c1 code p j f A2 c2 b4 b5 b6 b7 b8 b10 b11 g args W) (o:Obj):Zi w A1 c1 code p j f A2 c2 b4 b5 b6 b7 b8 b10 b11 g args (W.alloc o) :=
 ⟨⟨fU h.1.1 o,fU h.1.2.1 o,fU h.1.2.2.1 o,fU h.1.2.2.2.1 o,fU h.1.2.2.2.2 o⟩,⟨fU h.2.1.1 o,fU h.2.1.2 o⟩,Kd.MM h.2.2.1 o,iR h.2.2.2 o⟩
theorem Zi.below (h:Zi w A1 c1 code p j f A2 c2 b4 b5 b6 b7 b8 b10 b11 g args W) (hb:Below W.heap.size W W'):Zi w A1 c1 code p j f A2 c2 b4 b5 b6 b7 b8 b10 b11 g args W' :=
 ⟨⟨aK h.1.1 hb,aK h.1.2.1 hb,aK h.1.2.2.1 hb,aK h.1.2.2.2.1 hb,aK h.1.2.2.2.2 hb⟩,⟨aK h.2.1.1 hb,aK h.2.1.2 hb⟩,Kd.dI h.2.2.1 hb,aT h.2.2.2 hb⟩
theorem Zi.far (h:Zi w A1 c1 code p j f A2 c2 b4 b5 b6 b7 b8 b10 b11 g args W) {q i:Nat} (hq:w.heap.size≤q) (h4:b4≠q) (h5:b5≠q) (h6:b6≠q) (h7:b7≠q) (h8:b8≠q) (h10:b10≠q) (h11:b11≠q) (hg:g≠q) (u:Value):Zi w A1 c1 code p j f A2 c2 b4 b5 b6 b7 b8 b10 b11 g args (W.setCell ⟨q,i,none⟩ u) :=
 ⟨⟨aU h.1.1 h4 u,aU h.1.2.1 h5 u,aU h.1.2.2.1 h6 u,aU h.1.2.2.2.1 h7 u,aU h.1.2.2.2.2 h8 u⟩,⟨aU h.2.1.1 h10 u,aU h.2.1.2 h11 u⟩,Kd.dO (p:=⟨q,i,none⟩) h.2.2.1 (fun k hk=>by subst hk;exact hg) u,iO h.2.2.2 hq⟩
theorem Zi.put (h:Zi w A1 c1 code p j f A2 c2 b4 b5 b6 b7 b8 b10 b11 g args W) (hq:w.heap.size≤g) (h4:b4≠g) (h5:b5≠g) (h6:b6≠g) (h7:b7≠g) (h8:b8≠g) (h10:b10≠g) (h11:b11≠g) (i x:Int):Zi w A1 c1 code p j f A2 c2 b4 b5 b6 b7 b8 b10 b11 g (args.set i.toNat x) (W.setCell ⟨g,i.toNat,none⟩ (.int .i64 x)) :=
 ⟨⟨aU h.1.1 h4 _,aU h.1.2.1 h5 _,aU h.1.2.2.1 h6 _,aU h.1.2.2.2.1 h7 _,aU h.1.2.2.2.2 h8 _⟩,⟨aU h.2.1.1 h10 _,aU h.2.1.2 h11 _⟩,Kd.XD h.2.2.1 i x,iO h.2.2.2 hq⟩
theorem Zi.own (B:Nat) (hB:w.heap.size≤B) (hg:g<B):OwnFrom B (fun (a:List Int) W=>Zi w A1 c1 code p j f A2 c2 b4 b5 b6 b7 b8 b10 b11 g a W):=by
 rintro s X Y row ⟨⟨h4,h5,h6,h7,h8⟩,⟨h10,h11⟩,hR,hb⟩ hgr hr
 have hr':∀ r,row=some r→∃ o:Obj,X.heap[r]?=some o∧o.isCells=false:=fun r e=>(hr r e).2
 exact ⟨⟨cells_kept h4 hgr hr',cells_kept h5 hgr hr',cells_kept h6 hgr hr',cells_kept h7 hgr hr',cells_kept h8 hgr hr'⟩,⟨cells_kept h10 hgr hr',cells_kept h11 hgr hr'⟩,Kd.Tf hR hgr (fun k hk he=>by have:=(hr k he.symm).1;omega),ownFrom_below (β:=Unit) (Nat.le_refl _) hB () X Y row hb hgr hr⟩
theorem aIi (w3:World) (base m:Nat) (hb:base≤w3.heap.size) (hm:m≤9223372036854775807):Kd.R (Kd.int .i64) 3 (w3.alloc (.cells (madeCells #[.int .i64 0] m) 3)) base (fun k=>k=w3.heap.size) (.slice (some ⟨w3.heap.size,0,none⟩) m m) (List.replicate m (0:Int)) :=
 Kd.YC (enc:=Value.int .i64) (h1:=fun _=>rfl) (Ti (enc:=Value.int .i64) (d:=(0:Int)) w3 base 3 m hb hm) (fun k hk=>by simpa [Value.ownBlock] using hk.symm)
end
def IA (w:World) (A1:Option Addr) (c1:Nat) (code:List Int) (p j:Int) (f:nJ) (A2:Option Addr) (c2 b4 b5 b6 b7 b8 b10 b11 g b12:Nat) (PV:Value) (part:List Int) (lo:Nat) (pre:List (Part f.f2)) (W:World):Prop :=
 Zi w A1 c1 code p j f A2 c2 b4 b5 b6 b7 b8 b10 b11 g (Dz part f.f2 (pre.map Subtype.val) (List.replicate f.f2.length 0)) W∧W.heap[b12]?=some (.cells #[PV] 25 (0,0))∧lo≤W.heap.size∧∀ x ∈ pre,Vt (rd f.f2 x.1.arg) (Oc part x.1 (rd f.f2 x.1.arg))=true
theorem aTa {w:World} {A1:Option Addr} {c1:Nat} {code:List Int} {p j:Int} {f:nJ} {A2:Option Addr} {c2 b4 b5 b6 b7 b8 b10 b11 g b12:Nat} {PV:Value} {part:List Int} {lo:Nat} (B:Nat) (hB:w.heap.size≤B) (hg:g<B):OwnFrom B (IA w A1 c1 code p j f A2 c2 b4 b5 b6 b7 b8 b10 b11 g b12 PV part lo):=by
 rintro s X Y row ⟨h1,h2,h3,h4⟩ hgr hr
 exact ⟨Zi.own B hB hg _ X Y row h1 hgr hr,cells_kept h2 hgr (fun r e=>(hr r e).2),Nat.le_trans h3 hgr.size,h4⟩
def IX (w:World) (b6 b7 b8:Nat) (part l:List Int) (c:Code) (pre:List (Part l)) (W:World):Prop :=
 (c=.ret∧Oe part l=false)∧(W.heap[b6]?=some (.cells #[.int .i64 0,.slice none 0 0] 65 (0,0))∧W.heap[b7]?=some (.cells #[.int .i64 0] 3 (0,0))∧W.heap[b8]?=some (.cells #[.bool false] 4 (0,0)))∧Below w.heap.size w W
theorem aTb {w:World} {b6 b7 b8:Nat} {part l:List Int} (c:Code) (B:Nat) (hB:w.heap.size≤B):OwnFrom B (IX w b6 b7 b8 part l c):=by
 rintro s X Y row ⟨h1,⟨h2,h3,h4⟩,h5⟩ hgr hr
 have hr':∀ r,row=some r→∃ o:Obj,X.heap[r]?=some o∧o.isCells=false:=fun r e=>(hr r e).2
 exact ⟨h1,⟨cells_kept h2 hgr hr',cells_kept h3 hgr hr',cells_kept h4 hgr hr'⟩,ownFrom_below (β:=Unit) (Nat.le_refl _) hB () X Y row h5 hgr hr⟩
theorem aTc {part l:List Int} (xs:List (Part l)) (h:xs.map Subtype.val=lay l) (hx:∀ x ∈ xs,Vt (rd l x.1.arg) (Oc part x.1 (rd l x.1.arg))=true):Oe part l=true:=by
 unfold Oe
 rw [← h,List.all_map,List.all_eq_true]
 exact hx
theorem aTd {part l:List Int} (x:Part l) (hx:Vt (rd l x.1.arg) (Oc part x.1 (rd l x.1.arg))=false):Oe part l=false:=by
 unfold Oe
 rw [List.all_eq_false]
 exact ⟨x.1,x.2,by simp [hx]⟩
theorem aKE (xs:List Int) (i v:Int) (h0:0≤i) (h1:i<(xs.length:Int)):aEg (0:Int) (xs.set i.toNat v) i=v:=by
 unfold aEg
 rw [List.getD_eq_getElem?_getD,List.getElem?_set_self (by omega)]
 rfl
theorem aTe {w:World} {adc:Addr} {c1:Nat} {code:List Int} {p:Int} {m:Nat} (h:Kd.C (Kd.int .u8) w (some adc) code.length code) (hc:code.length≤c1) (h0:0≤p) (h1:p<(code.length:Int)) (hm:p+(m:Int)≤(code.length:Int)) :
  Kd.C (Kd.int .u8) w (some (adc.add p.toNat)) ((code.drop p.toNat).take m).length ((code.drop p.toNat).take m):=by
 have h2:=Kd.aKF h (m:=p.toNat) (by omega) hc
 rw [if_neg (by omega)] at h2
 have h3:=Kd.aBi h2 (m:=m) (by rw [Dw];omega)
 have e:p.toNat*(Kd.int .u8).sz=p.toNat:=Nat.mul_one _
 rw [Option.map_some,e] at h3
 exact h3
theorem aNS {t:List nJ} {code:List Int} {p j:Int} {f:nJ} {m:Nat} (hj:Dn (wR (rd code p)) t=j) (hj0:0≤j) (hf:aI t j=f) (hm:oH f.f2=(m:Int)) (hl:p+(m:Int)≤(code.length:Int)) (h:Oe (Og code p f.f2) f.f2=false):atF t code p=nothing:=by
 unfold atF
 rw [hj,if_neg (by omega),hf,hm,if_neg (by omega),if_pos h]
theorem aTf {t:List nJ} {code:List Int} {p j:Int} {f:nJ} {m:Nat} (hj:Dn (wR (rd code p)) t=j) (hj0:0≤j) (hf:aI t j=f) (hm:oH f.f2=(m:Int)) (hl:p+(m:Int)≤(code.length:Int)) (h:Oe (Og code p f.f2) f.f2=true) (h2:aCT (Og code p f.f2) f.f2=true):atF t code p=nothing:=by
 unfold atF
 rw [hj,if_neg (by omega),hf,hm,if_neg (by omega),if_neg (by rw [h];simp),if_pos h2]
theorem aGM {t:List nJ} {code:List Int} {p j:Int} {f:nJ} {m:Nat} (hj:Dn (wR (rd code p)) t=j) (hj0:0≤j) (hf:aI t j=f) (hm:oH f.f2=(m:Int)) (hl:p+(m:Int)≤(code.length:Int)) (h:Oe (Og code p f.f2) f.f2=true) (h2:aCT (Og code p f.f2) f.f2=false):atF t code p=(j,Dz (Og code p f.f2) f.f2 (lay f.f2) (List.replicate f.f2.length 0),(m:Int),true):=by
 unfold atF
 rw [hj,if_neg (by omega),hf,hm,if_neg (by omega),if_neg (by rw [h];simp),if_neg (by rw [h2];simp)]
set_option maxHeartbeats 8000000 in
set_option maxRecDepth 100000 in
theorem aY3 (A0:Option Addr) (c0:Nat) (t:List nJ) (A1:Option Addr) (c1:Nat) (code:List Int) (p:Int) (w:World) (hr0:Kd.C Nv w A0 t.length t) (hc0:t.length≤c0) (hr1:Kd.C (Kd.int .u8) w A1 code.length code) (hc1:code.length≤c1)
  (hp0:0≤p) (hp1:p<(code.length:Int)) (hcl:code.length≤1000000) (hall:∀ f ∈ t,f.f2.length≤4∧∀ x ∈ f.f2,1≤x∧x≤6)
  (j:Int) (hj:Dn (wR (rd code p)) t=j) (hj0:0≤j) (hj1:j<(t.length:Int)) (m:Nat) (hm:oH (aI t j).f2=(m:Int)) (hlong:¬ (code.length:Int)<p+m) :
  CallsIn Fence.wide 5 Try.prog 79 #[.slice A0 t.length c0,.slice A1 code.length c1,.int .i64 p] w (aBg w (atF t code p)):=by
 have Jf:=Try.underlying54
 have Kz:=Try.underlying65
 have aBO:=Try.underlying124
 have hF:∀ f,Fence.wide.fn f:=fun _=>trivial
 have hmf:∀ (fn:Fn) (first cap:Array Value) (w:World),(Instr.makeFunc fn first cap).run Try.prog w=.ok (.func fn first cap) w:=fun _ _ _ _=>rfl
 have eg:∀ args w,(callFunc 89 args).run Try.prog w=.ok (.enter 89 args) w:=enters_of Try.func89 aQ rfl
 have HR1:=aA.mk hr1
 have Gj:=aA.mk hc1
 have HR0:=aA.mk hr0
 have Am:=aA.mk hc0
 have HJ:=aA.mk hj
 clear hr1 hc1 hr0 hc0 hj
 refine callsIn_of_wp_marks Try.func79 rfl trivial ?_ rfl
 simp only [Try.ntmps79,List.size_toArray,List.length_cons,List.length_nil,Nat.reduceAdd,Nat.reduceSub,Array.replicate_succ,Array.replicate_zero,List.push_toArray,List.append_toArray,List.nil_append,List.cons_append]
 have q4:=fU (fU (fU (fU (pY w (.cells #[.slice A1 code.length c1] 25)) (.cells #[.int .i64 p] 3)) (.cells #[.int .i64 0,.slice none 0 0] 65)) (.cells #[.int .i64 0] 3)) (.cells #[.bool false] 4)
 have q5:=fU (fU (fU (pY (w.alloc (.cells #[.slice A1 code.length c1] 25)) (.cells #[.int .i64 p] 3)) (.cells #[.int .i64 0,.slice none 0 0] 65)) (.cells #[.int .i64 0] 3)) (.cells #[.bool false] 4)
 have q6:=fU (fU (pY ((w.alloc (.cells #[.slice A1 code.length c1] 25)).alloc (.cells #[.int .i64 p] 3)) (.cells #[.int .i64 0,.slice none 0 0] 65)) (.cells #[.int .i64 0] 3)) (.cells #[.bool false] 4)
 have q7:=fU (pY (((w.alloc (.cells #[.slice A1 code.length c1] 25)).alloc (.cells #[.int .i64 p] 3)).alloc (.cells #[.int .i64 0,.slice none 0 0] 65)) (.cells #[.int .i64 0] 3)) (.cells #[.bool false] 4)
 have q8:=pY ((((w.alloc (.cells #[.slice A1 code.length c1] 25)).alloc (.cells #[.int .i64 p] 3)).alloc (.cells #[.int .i64 0,.slice none 0 0] 65)).alloc (.cells #[.int .i64 0] 3)) (.cells #[.bool false] 4)
 simp only [World.size_alloc] at q5 q6 q7 q8
 have hB5:Below w.heap.size w (((((w.alloc (.cells #[.slice A1 code.length c1] 25)).alloc (.cells #[.int .i64 p] 3)).alloc (.cells #[.int .i64 0,.slice none 0 0] 65)).alloc (.cells #[.int .i64 0] 3)).alloc (.cells #[.bool false] 4)):=iR (iR (iR (iR (iR (Below.refl _ w) (.cells #[.slice A1 code.length c1] 25)) (.cells #[.int .i64 p] 3)) (.cells #[.int .i64 0,.slice none 0 0] 65)) (.cells #[.int .i64 0] 3)) (.cells #[.bool false] 4)
 have hcc:=IndexFunc.calls 89 #[.pointer (some ⟨w.heap.size,0,none⟩),.pointer (some ⟨w.heap.size+1,0,none⟩)] (wR (rd code p)) eg A0 c0 t (((((w.alloc (.cells #[.slice A1 code.length c1] 25)).alloc (.cells #[.int .i64 p] 3)).alloc (.cells #[.int .i64 0,.slice none 0 0] 65)).alloc (.cells #[.int .i64 0] 3)).alloc (.cells #[.bool false] 4)) (Kd.dP HR0.out hB5) (aBh _ _ A1 c1 code p t _ q4 q5 (Kd.dP HR1.out hB5) hp0 hp1)
 rw [HJ.out] at hcc
 have HCC:=aA.mk hcc
 have HB5:=aA.mk hB5
 have Q4:=aA.mk q4
 have Q5:=aA.mk q5
 have Q6:=aA.mk q6
 have Q7:=aA.mk q7
 have Q8:=aA.mk q8
 clear hcc hB5 q4 q5 q6 q7 q8
 gi_wp2_with (gi_at_call 73;refine (callsIn_wide.2 HCC.out).mono ?_;rintro e w2 ⟨rfl,hb⟩;have HB:=aA.mk (aT HB5.out hb);have P4:=aA.mk (aK Q4.out hb);have P5:=aA.mk (aK Q5.out hb);have P6:=aA.mk (aK Q6.out hb);have P7:=aA.mk (aK Q7.out hb);have P8:=aA.mk (aK Q8.out hb);clear hb)
 clear HCC HB5 Q4 Q5 Q6 Q7 Q8
 have HN:aA (w.heap.size<w.heap.size+1∧w.heap.size+1<w.heap.size+1+1∧w.heap.size+1+1<w.heap.size+1+1+1∧w.heap.size+1+1+1<w.heap.size+1+1+1+1):=⟨by omega⟩
 generalize w.heap.size+1+1+1+1=b8 at HN P8 ⊢
 generalize w.heap.size+1+1+1=b7 at HN P7 ⊢
 generalize w.heap.size+1+1=b6 at HN P6 ⊢
 generalize w.heap.size+1=b5 at HN P5 ⊢
 obtain ⟨b4,hb4⟩:∃ b4,b4=w.heap.size:=⟨_,rfl⟩
 rw [← hb4] at HN P4 ⊢
 have HB4:=aA.mk hb4
 clear hb4
 obtain ⟨ad,A2,c2,e0,hx0,hx1,hx2,hl2,hi2⟩:=rJ HR0.out j hj0 hj1
 cases e0
 have hff:=hall _ (QJ t j hj0 hj1)
 have hmb:=ML _ hff.1
 rw [hm] at hmb
 have HL:=aA.mk (Td (aI t j).f0 (aI t j).f1 (aI t j).f2 (by omega) 2000 (by omega))
 rw [hm] at HL
 generalize hf:aI t j=f at *
 obtain ⟨adc,ec,hxc⟩:=Kd.jJ HR1.out p hp0 hp1
 cases ec
 clear hxc
 have HI2:=aA.mk hi2
 have HL2:=aA.mk hl2
 have HFF:=aA.mk hff
 have HM:=aA.mk hm
 have HF:=aA.mk hf
 clear hi2 hl2 hff hm hf hall
 have hy0:=(HB.out.cell (dM w _ hx0)).trans hx0
 have hy1:=(HB.out.cell (dM w _ hx1)).trans hx1
 have hy2:=(HB.out.cell (dM w _ hx2)).trans hx2
 have X0:=aA.mk hx0
 have X1:=aA.mk hx1
 have X2:=aA.mk hx2
 clear hx0 hx1 hx2
 have hd:decide (j<0)=false:=kT (by omega)
 have pk0:(0≤j)=True:=eq_true hj0
 have pk1:(j<(t.length:Int))=True:=eq_true hj1
 have hwp:wrap64 (p+(m:Int))=p+m:=by unfold wrap64;omega
 have hlb:decide ((code.length:Int)<p+(m:Int))=false:=kT (by omega)
 refine EF (m:=14) (S:=fun w'=>w'.cell? ⟨b5,0,none⟩=some (.int .i64 p)∧w'.cell? ⟨b4,0,none⟩=some (.slice (some adc) code.length c1)∧w'.cell? (ad.add (j.toNat*3))=some (.string f.f0)∧w'.cell? ⟨(ad.add (j.toNat*3)).block,(ad.add (j.toNat*3)).off+1,none⟩=some (.int .i64 f.f1)∧w'.cell? ⟨(ad.add (j.toNat*3)).block,(ad.add (j.toNat*3)).off+2,none⟩=some (.slice A2 f.f2.length c2)) (ds:=[]) #[false,false,false,false,false,false,false,false,false,false,false,false,false,false] aQ rfl rfl ⟨(aC (dY P5.out) 0).trans rfl,(aC (dY P4.out) 0).trans rfl,hy0,hy1,hy2⟩ (fun hHeld=>?_)
 clear hy0 hy1 hy2
 have Oh:=aA.mk (dY P4.out)
 have Oi:=aA.mk (dY P5.out)
 have Oj:=aA.mk (dY P6.out)
 have Ol:=aA.mk (dY P7.out)
 have Om:=aA.mk (dY P8.out)
 have Oo:=aA.mk (fZ HB.out)
 clear P4 P5 P6 P7 P8 HB
 generalize w2.drew=w3 at Oh Oi Oj Ol Om Oo hHeld ⊢
 have P4:=Oh
 have P5:=Oi
 have P6:=Oj
 have P7:=Ol
 have P8:=Om
 have HB:=Oo
 clear Oh Oi Oj Ol Om Oo w2
 refine bQ (i:=0) (N:=some 18) (v:=?_) (a':=?_) #[true,false,false,false,false,false,false,false,false,false,false,false,false,false] rfl rfl aQ (fun _ _ _ h=>h) (bG ?_) ?_ ?_
 rotate_left
 ·intro w'
  go_simp
  with_reducible rfl
 rotate_left
 ·simp only [Act.put,aX]
  rfl
 refine bQ (i:=1) (N:=some 19) (v:=?_) (a':=?_) #[true,true,false,false,false,false,false,false,false,false,false,false,false,false] rfl rfl aQ (fun _ _ _ h=>h) (bG ?_) ?_ ?_
 rotate_left
 ·intro w'
  go_simp
  with_reducible rfl
 rotate_left
 ·simp only [Act.put,aX]
  rfl
 refine bQ (i:=2) (N:=some 20) (v:=?_) (a':=?_) #[true,true,true,false,false,false,false,false,false,false,false,false,false,false] rfl rfl aQ (fun _ _ _ h=>h) (bG ?_) ?_ ?_
 rotate_left
 ·intro w'
  go_simp
  with_reducible rfl
 rotate_left
 ·simp only [Act.put,aX]
  rfl
 refine iQ (i:=3) (N:=some 21) (v:=?_) (a':=?_) #[true,true,true,true,false,false,false,false,false,false,false,false,false,false] rfl rfl aQ (fun _ _ _ h=>h) (bG ?_) hHeld ?_ ?_
 rotate_left
 ·rintro w' ⟨s0,s1,s2,s3,s4⟩
  go_simp
  with_reducible rfl
 rotate_left
 ·simp only [Act.put,aX]
  rfl
 refine bQ (i:=4) (N:=some 22) (v:=?_) (a':=?_) #[true,true,true,true,true,false,false,false,false,false,false,false,false,false] rfl rfl aQ (fun _ _ _ h=>h) (bG ?_) ?_ ?_
 rotate_left
 ·intro w'
  go_simp
  with_reducible rfl
 rotate_left
 ·simp only [Act.put,aX]
  rfl
 refine bQ (i:=5) (N:=some 23) (v:=?_) (a':=?_) #[true,true,true,true,true,true,false,false,false,false,false,false,false,false] rfl rfl aQ (fun _ _ _ h=>h) (bG ?_) ?_ ?_
 rotate_left
 ·intro w'
  go_simp
  with_reducible rfl
 rotate_left
 ·simp only [Act.put,aX]
  rfl
 refine bQ (i:=6) (N:=some 24) (v:=?_) (a':=?_) #[true,true,true,true,true,true,true,false,false,false,false,false,false,false] rfl rfl aQ (fun _ _ _ h=>h) (bG ?_) ?_ ?_
 rotate_left
 ·intro w'
  go_simp
  with_reducible rfl
 rotate_left
 ·simp only [Act.put,aX]
  rfl
 refine iQ (i:=7) (N:=some 25) (v:=?_) (a':=?_) #[true,true,true,true,true,true,true,true,false,false,false,false,false,false] rfl rfl aQ (fun _ _ _ h=>h) (bG ?_) hHeld ?_ ?_
 rotate_left
 ·rintro w' ⟨s0,s1,s2,s3,s4⟩
  go_simp
  with_reducible rfl
 rotate_left
 ·simp only [Act.put,aX]
  rfl
 refine iQ (i:=10) (N:=some 28) (v:=?_) (a':=?_) #[true,true,true,true,true,true,true,true,false,false,true,false,false,false] rfl rfl aQ (fun _ _ _ h=>h) (bG ?_) hHeld ?_ ?_
 rotate_left
 ·rintro w' ⟨s0,s1,s2,s3,s4⟩
  go_simp
  with_reducible rfl
 rotate_left
 ·simp only [Act.put,aX]
  rfl
 refine bQ (i:=11) (N:=some 29) (v:=?_) (a':=?_) #[true,true,true,true,true,true,true,true,false,false,true,true,false,false] rfl rfl aQ (fun _ _ _ h=>h) (bG ?_) ?_ ?_
 rotate_left
 ·intro w'
  go_simp
  with_reducible rfl
 rotate_left
 ·simp only [Act.put,aX]
  rfl
 refine wL (i:=8) (N:=some 26) #[true,true,true,true,true,true,true,true,true,false,true,true,false,false] rfl rfl aQ (by decide) (fun K hK=>?_)
 refine xR Try.func72 aQ rfl #[.agg #[.string f.f0,.int .i64 f.f1,.slice A2 f.f2.length c2]] (by rfl) rfl rfl (by (try simp only [List.map_toArray,List.map_cons,List.map_nil]);first|done|rfl) ?_
 refine (mQ.calls 2000 f.f0 f.f1 A2 c2 f.f2 _ w3 (Kd.dP HI2.out HB.out) HL2.out HL.out).mono ?_
 rintro e w5 ⟨rfl,hb⟩
 have Oo:=aA.mk (aT HB.out hb)
 have Oh:=aA.mk (aK P4.out hb)
 have Oi:=aA.mk (aK P5.out hb)
 have Oj:=aA.mk (aK P6.out hb)
 have Ol:=aA.mk (aK P7.out hb)
 have Om:=aA.mk (aK P8.out hb)
 clear HB P4 P5 P6 P7 P8
 have HB:=Oo
 have P4:=Oh
 have P5:=Oi
 have P6:=Oj
 have P7:=Ol
 have P8:=Om
 clear Oo Oh Oi Oj Ol Om hb
 refine ⟨_,rfl,?_⟩
 have hy0:=(HB.out.cell (dM w _ X0.out)).trans X0.out
 have hy1:=(HB.out.cell (dM w _ X1.out)).trans X1.out
 have hy2:=(HB.out.cell (dM w _ X2.out)).trans X2.out
 refine hK.out _ _ ⟨(aC P5.out 0).trans rfl,(aC P4.out 0).trans rfl,hy0,hy1,hy2⟩ (fun hHeld=>?_)
 clear hK K hy0 hy1 hy2
 refine sJ (a':=?_) ?_ ?_
 rotate_left
 ·show Act.put _ (some 26) _=_
  simp only [Act.put,aX]
  rfl
 refine bQ (i:=9) (N:=some 27) (v:=?_) (a':=?_) #[true,true,true,true,true,true,true,true,true,true,true,true,false,false] rfl rfl aQ (fun _ _ _ h=>h) (bG ?_) ?_ ?_
 rotate_left
 ·intro w'
  go_simp
  with_reducible rfl
 rotate_left
 ·simp only [Act.put,aX]
  rfl
 refine bQ (i:=12) (N:=some 30) (v:=?_) (a':=?_) #[true,true,true,true,true,true,true,true,true,true,true,true,true,false] rfl rfl aQ (fun _ _ _ h=>h) (bG ?_) ?_ ?_
 rotate_left
 ·intro w'
  go_simp
  with_reducible rfl
 rotate_left
 ·simp only [Act.put,aX]
  rfl
 refine bQ (i:=13) (N:=some 31) (v:=?_) (a':=?_) #[true,true,true,true,true,true,true,true,true,true,true,true,true,true] rfl rfl aQ (fun _ _ _ h=>h) (bG ?_) ?_ ?_
 rotate_left
 ·intro w'
  go_simp
  with_reducible rfl
 rotate_left
 ·simp only [Act.put,aX]
  rfl
 refine sG aQ (EE ?_)
 have hmk:=YD (P:=Try.prog) 22 3 .i64 8 Try.underlying22 info3 (by decide) f.f2.length (by have:=HFF.out.1;omega)
 have hy0:=(HB.out.cell (dM w _ X0.out)).trans X0.out
 have hy1:=(HB.out.cell (dM w _ X1.out)).trans X1.out
 have hy2:=(HB.out.cell (dM w _ X2.out)).trans X2.out
 gi_wp2_with (fail)
 have q10:=fU (fU (pY w5 (.cells #[.string f.f0,.int .i64 f.f1,.slice A2 f.f2.length c2] 54)) (.cells (madeCells #[.int .i64 0] f.f2.length) 3)) (.cells #[.int .i64 j,.slice (some ⟨w5.heap.size+1,0,none⟩) f.f2.length f.f2.length] 65)
 have q11:=pY ((w5.alloc (.cells #[.string f.f0,.int .i64 f.f1,.slice A2 f.f2.length c2] 54)).alloc (.cells (madeCells #[.int .i64 0] f.f2.length) 3)) (.cells #[.int .i64 j,.slice (some ⟨w5.heap.size+1,0,none⟩) f.f2.length f.f2.length] 65)
 have qr:=Kd.MM (aIi (w5.alloc (.cells #[.string f.f0,.int .i64 f.f1,.slice A2 f.f2.length c2] 54)) w.heap.size f.f2.length (by have:=HB.out.size;simp;omega) (by have:=HFF.out.1;omega)) (.cells #[.int .i64 j,.slice (some ⟨w5.heap.size+1,0,none⟩) f.f2.length f.f2.length] 65)
 have qb:=iR (iR (iR HB.out (.cells #[.string f.f0,.int .i64 f.f1,.slice A2 f.f2.length c2] 54)) (.cells (madeCells #[.int .i64 0] f.f2.length) 3)) (.cells #[.int .i64 j,.slice (some ⟨w5.heap.size+1,0,none⟩) f.f2.length f.f2.length] 65)
 simp only [World.size_alloc] at q11 qr
 have q8:=bU P8.out
 have HW:=aA.mk (show Zi w (some adc) c1 code p j f A2 c2 b4 b5 b6 b7 b8 w5.heap.size (w5.heap.size+1+1) (w5.heap.size+1) (List.replicate f.f2.length 0) (((w5.alloc (.cells #[.string f.f0,.int .i64 f.f1,.slice A2 f.f2.length c2] 54)).alloc (.cells (madeCells #[.int .i64 0] f.f2.length) 3)).alloc (.cells #[.int .i64 j,.slice (some ⟨w5.heap.size+1,0,none⟩) f.f2.length f.f2.length] 65)) from
  ⟨⟨fU (fU (fU P4.out _) _) _,fU (fU (fU P5.out _) _) _,fU (fU (fU P6.out _) _) _,fU (fU (fU P7.out _) _) _,fU (fU (fU P8.out _) _) _⟩,⟨q10,q11⟩,qr,qb⟩)
 have HN2:=aA.mk (show b8<w5.heap.size∧w5.heap.size<w5.heap.size+1∧w5.heap.size+1<w5.heap.size+1+1 by omega)
 clear q10 q11 qr qb q8 P4 P5 P6 P7 P8 HB hmk hy0 hy1 hy2 hHeld
 generalize (((w5.alloc (.cells #[.string f.f0,.int .i64 f.f1,.slice A2 f.f2.length c2] 54)).alloc (.cells (madeCells #[.int .i64 0] f.f2.length) 3)).alloc (.cells #[.int .i64 j,.slice (some ⟨w5.heap.size+1,0,none⟩) f.f2.length f.f2.length] 65))=w6 at HW ⊢
 generalize w5.heap.size+1+1=b11 at HW HN2 ⊢
 generalize w5.heap.size+1=g at HW HN2 ⊢
 generalize w5.heap.size=b10 at HW HN2 ⊢
 clear w5
 obtain ⟨i5,hi5,_,hsz5,_⟩:=info_parts info5
 have aTg:=aNT (P:=Try.prog) 25 5 .i64 .i64 Try.underlying25 hi5 1 hsz5 (some adc) code.length c1 p (p+m) hp0 (by omega) (by omega) Gj.out
 rw [if_neg (by have:=Gj.out;omega),show (p+(m:Int)).toNat-p.toNat=m by omega,Nat.mul_one] at aTg
 have bHh:=aTg
 clear aTg
 have HWd:=aA.mk HW.out.drew
 refine EF (m:=9) (S:=fun w'=>w'.cell? ⟨b4,0,none⟩=some (.slice (some adc) code.length c1)∧w'.cell? ⟨b5,0,none⟩=some (.int .i64 p)∧w'.cell? ⟨b10,0,none⟩=some (.string f.f0)∧w'.cell? ⟨b10,1,none⟩=some (.int .i64 f.f1)∧w'.cell? ⟨b10,2,none⟩=some (.slice A2 f.f2.length c2)) (ds:=[]) #[false,false,false,false,false,false,false,false,false] aQ rfl rfl ⟨(aC HWd.out.1.1 0).trans rfl,(aC HWd.out.1.2.1 0).trans rfl,(aC HWd.out.2.1.1 0).trans rfl,(aC HWd.out.2.1.1 1).trans rfl,(aC HWd.out.2.1.1 2).trans rfl⟩ (fun hHeld=>?_)
 clear HW
 generalize w6.drew=w7 at HWd hHeld ⊢
 clear w6
 refine iQ (i:=0) (N:=some 43) (v:=?_) (a':=?_) #[true,false,false,false,false,false,false,false,false] rfl rfl aQ (fun _ _ _ h=>h) (bG ?_) hHeld ?_ ?_
 rotate_left
 ·rintro w' ⟨s0,s1,s2,s3,s4⟩
  go_simp
  with_reducible rfl
 rotate_left
 ·simp only [Act.put,aX]
  rfl
 refine iQ (i:=1) (N:=some 44) (v:=?_) (a':=?_) #[true,true,false,false,false,false,false,false,false] rfl rfl aQ (fun _ _ _ h=>h) (bG ?_) hHeld ?_ ?_
 rotate_left
 ·rintro w' ⟨s0,s1,s2,s3,s4⟩
  go_simp
  with_reducible rfl
 rotate_left
 ·simp only [Act.put,aX]
  rfl
 refine iQ (i:=2) (N:=some 45) (v:=?_) (a':=?_) #[true,true,true,false,false,false,false,false,false] rfl rfl aQ (fun _ _ _ h=>h) (bG ?_) hHeld ?_ ?_
 rotate_left
 ·rintro w' ⟨s0,s1,s2,s3,s4⟩
  go_simp
  with_reducible rfl
 rotate_left
 ·simp only [Act.put,aX]
  rfl
 refine iQ (i:=3) (N:=some 46) (v:=?_) (a':=?_) #[true,true,true,true,false,false,false,false,false] rfl rfl aQ (fun _ _ _ h=>h) (bG ?_) hHeld ?_ ?_
 rotate_left
 ·rintro w' ⟨s0,s1,s2,s3,s4⟩
  go_simp
  with_reducible rfl
 rotate_left
 ·simp only [Act.put,aX]
  rfl
 refine aY4 (σ:=Nat) 1 #[true,true,true,true,true,true,true,true,false] (fun s_=>[(47,.int .i64 m),(48,.int .i64 (wrap64 (p+m))),(49,.slice (some (adc.add p.toNat)) m (c1-p.toNat)),(12,.pointer (some ⟨s_,0,none⟩))]) (fun s_ w'=>aA (Zi w (some adc) c1 code p j f A2 c2 b4 b5 b6 b7 b8 b10 b11 g (List.replicate f.f2.length 0) w')∧aA (w'.heap[s_]?=some (.cells #[.slice none 0 0] 25 (0,0)))∧aA (b11<s_)) ?cont ?walk
 case walk =>
  intro hcont
  have HCT:=aA.mk hcont
  clear hcont
  have bHi:=bU HWd.out.2.1.2
  refine bHj (i:=4) (j:=7) (Ni:=some 47) (Nj:=some 12) #[true,true,true,true,true,false,false,false,false] #[true,true,true,true,false,false,false,true,false] rfl rfl rfl rfl aQ (by decide) (by decide) (fun K hK=>?_) (fun K hK=>?_)
  ·refine xR Try.func72 aQ rfl #[.agg #[.string f.f0,.int .i64 f.f1,.slice A2 f.f2.length c2]] (by rfl) rfl rfl (by (try simp only [List.map_toArray,List.map_cons,List.map_nil]);first|done|rfl) ?_;refine (mQ.calls 2000 f.f0 f.f1 A2 c2 f.f2 _ w7 (Kd.dP HI2.out HWd.out.2.2.2) HL2.out HL.out).mono ?_;rintro e w8 ⟨rfl,hb⟩;have H8:=aA.mk (HWd.out.below hb);clear hb;refine ⟨_,rfl,?_⟩;refine hK.out _ _ ⟨(aC H8.out.1.1 0).trans rfl,(aC H8.out.1.2.1 0).trans rfl,(aC H8.out.2.1.1 0).trans rfl,(aC H8.out.2.1.1 1).trans rfl,(aC H8.out.2.1.1 2).trans rfl⟩ (fun hHeld=>?_);clear hK K;refine sJ (a':=?_) ?_ ?_;rotate_left
   ·show Act.put _ (some 47) _=_;simp only [Act.put,aX];rfl
   refine bQ (i:=5) (N:=some 48) (v:=?_) (a':=?_) #[true,true,true,true,true,true,false,false,false] rfl rfl aQ (fun _ _ _ h=>h) (bG ?_) ?_ ?_;rotate_left
   ·intro w';go_simp;with_reducible rfl
   rotate_left
   ·simp only [Act.put,aX];rfl
   refine bQ (i:=6) (N:=some 49) (v:=?_) (a':=?_) #[true,true,true,true,true,true,true,false,false] rfl rfl aQ (fun _ _ _ h=>h) (bG ?_) ?_ ?_;rotate_left
   ·intro w';go_simp;with_reducible rfl
   rotate_left
   ·simp only [Act.put,aX];rfl
   refine wL (i:=7) (N:=some 12) #[true,true,true,true,true,true,true,true,false] rfl rfl aQ (by decide) (fun K hK=>?_);refine aDM (w1:=?_) (v:=?_) (by rfl) rfl ?_ ?_;rotate_left 2
   ·go_simp
    constructor
    ·rfl
    ·rfl
   have H9:=aA.mk (H8.out.alloc (.cells #[.slice none 0 0] 25));refine hK.out _ _ ⟨(aC H9.out.1.1 0).trans rfl,(aC H9.out.1.2.1 0).trans rfl,(aC H9.out.2.1.1 0).trans rfl,(aC H9.out.2.1.1 1).trans rfl,(aC H9.out.2.1.1 2).trans rfl⟩ (fun hHeld=>?_);clear hK K;refine sJ ?_ (HCT.out w8.heap.size _ ⟨⟨H9.out⟩,⟨pY _ _⟩,⟨bU H8.out.2.1.2⟩⟩)
   first|rfl|(simp only [UO,Act.put,JF,Gf,Jh];rfl)
  ·refine aDM (w1:=?_) (v:=?_) (by rfl) rfl ?_ ?_;rotate_left 2
   ·go_simp
    constructor
    ·rfl
    ·rfl
   have H8:=aA.mk (HWd.out.alloc (.cells #[.slice none 0 0] 25));have B8:=aA.mk (pY w7 (.cells #[.slice none 0 0] 25));refine hK.out _ _ ⟨(aC H8.out.1.1 0).trans rfl,(aC H8.out.1.2.1 0).trans rfl,(aC H8.out.2.1.1 0).trans rfl,(aC H8.out.2.1.1 1).trans rfl,(aC H8.out.2.1.1 2).trans rfl⟩ (fun hHeld=>?_);clear hK K;refine sJ (a':=?_) ?_ ?_;rotate_left
   ·show Act.put _ (some 12) _=_;simp only [Act.put,aX];rfl
   refine wL (i:=4) (N:=some 47) #[true,true,true,true,true,false,false,true,false] rfl rfl aQ (by decide) (fun K hK=>?_);refine xR Try.func72 aQ rfl #[.agg #[.string f.f0,.int .i64 f.f1,.slice A2 f.f2.length c2]] (by rfl) rfl rfl (by (try simp only [List.map_toArray,List.map_cons,List.map_nil]);first|done|rfl) ?_;refine (mQ.calls 2000 f.f0 f.f1 A2 c2 f.f2 _ (w7.alloc (.cells #[.slice none 0 0] 25)) (Kd.dP HI2.out H8.out.2.2.2) HL2.out HL.out).mono ?_;rintro e w9 ⟨rfl,hb⟩;have H9:=aA.mk (H8.out.below hb);have B9:=aA.mk (aK B8.out hb);clear hb;refine ⟨_,rfl,?_⟩;refine hK.out _ _ ⟨(aC H9.out.1.1 0).trans rfl,(aC H9.out.1.2.1 0).trans rfl,(aC H9.out.2.1.1 0).trans rfl,(aC H9.out.2.1.1 1).trans rfl,(aC H9.out.2.1.1 2).trans rfl⟩ (fun hHeld=>?_);clear hK K;refine sJ (a':=?_) ?_ ?_;rotate_left
   ·show Act.put _ (some 47) _=_;simp only [Act.put,aX];rfl
   refine bQ (i:=5) (N:=some 48) (v:=?_) (a':=?_) #[true,true,true,true,true,true,false,true,false] rfl rfl aQ (fun _ _ _ h=>h) (bG ?_) ?_ ?_;rotate_left
   ·intro w';go_simp;with_reducible rfl
   rotate_left
   ·simp only [Act.put,aX];rfl
   refine bQ (i:=6) (N:=some 49) (v:=?_) (a':=?_) #[true,true,true,true,true,true,true,true,false] rfl rfl aQ (fun _ _ _ h=>h) (bG ?_) ?_ ?_;rotate_left
   ·intro w';go_simp;with_reducible rfl
   rotate_left
   ·simp only [Act.put,aX];rfl
   refine sJ ?_ (HCT.out w7.heap.size _ ⟨⟨H9.out⟩,⟨B9.out⟩,⟨bHi⟩⟩)
   first|rfl|(simp only [UO,Act.put,JF,Gf,Jh];rfl)
 case cont =>
 rintro b12 w9 ⟨HW,H12,HN3⟩
 clear HWd hHeld
 refine sJ (a':=?_) ?_ ?_
 rotate_left
 ·simp only [UO,Act.put,JF,Gf,Jh]
  rfl
 have hcs:w9.cell? ⟨b12,0,none⟩=some (.slice none 0 0):=(aC H12.out 0).trans rfl
 have hfs:=aG H12.out 0
 refine wL (i:=8) (N:=none) #[true,true,true,true,true,true,true,true,true] rfl rfl aQ (by decide) (fun K hK=>?_)
 refine BP (w1:=?_) (by rfl) rfl ?_ ?_
 rotate_left
 ·go_simp
  rfl
 have ZG:=HB4.out
 have h41:=HN.out
 have h42:=HN2.out
 have h43:=HN3.out
 have HWn:=aA.mk (HW.out.far (q:=b12) (i:=0) (by omega) (by omega) (by omega) (by omega) (by omega) (by omega) (by omega) (by omega) (by omega) (.slice (some (adc.add p.toNat)) m (c1-p.toNat)))
 have aTh:=aA.mk (aY (cs:=#[.slice none 0 0]) H12.out 0 (.slice (some (adc.add p.toNat)) m (c1-p.toNat)) rfl)
 refine hK.out _ _ ⟨(aC HWn.out.1.1 0).trans rfl,(aC HWn.out.1.2.1 0).trans rfl,(aC HWn.out.2.1.1 0).trans rfl,(aC HWn.out.2.1.1 1).trans rfl,(aC HWn.out.2.1.1 2).trans rfl⟩ (fun hHeld=>?_)
 clear hK K hcs hfs HW H12 hHeld
 refine sG aQ (EE ?_)
 generalize w9.setCell ⟨b12,0,none⟩ (.slice (some (adc.add p.toNat)) m (c1-p.toNat))=wx at HWn aTh ⊢
 clear w9
 have HW:=HWn
 have H12:=aTh
 clear HWn aTh
 have hc0:wx.cell? ⟨b10,0,none⟩=some (.string f.f0):=(aC HW.out.2.1.1 0).trans rfl
 have hc1:wx.cell? ⟨b10,1,none⟩=some (.int .i64 f.f1):=(aC HW.out.2.1.1 1).trans rfl
 have hc2:wx.cell? ⟨b10,2,none⟩=some (.slice A2 f.f2.length c2):=(aC HW.out.2.1.1 2).trans rfl
 clear ZG h41 h42 h43 bHh
 gi_wp2_with (gi_at_call 87;refine (aAg _ f.f0 f.f1 A2 f.f2.length c2 _).mono ?_;rintro e w7 ⟨rfl,rfl⟩)
 clear hc0 hc1 hc2
 obtain ⟨part,hpart⟩:∃ part,Og code p f.f2=part:=⟨_,rfl⟩
 have hpm:(code.drop p.toNat).take m=part:=by rw [← hpart,Og,HM.out,Int.toNat_natCast]
 have hpl:part.length=m:=by rw [← hpm,Fq,Dw];omega
 have hpc:=aTe HR1.out Gj.out hp0 hp1 (m:=m) (by omega)
 rw [hpm] at hpc
 have HP:=aA.mk hpc
 have HPL:=aA.mk hpl
 have HPE:=aA.mk hpart
 clear hpc hpl hpm hpart
 have bL:=pY wx (.cells #[.string f.f0,.int .i64 f.f1,.slice A2 f.f2.length c2] 54)
 have hlx:wx.heap.size<(wx.alloc (.cells #[.string f.f0,.int .i64 f.f1,.slice A2 f.f2.length c2] 54)).heap.size:=by simp
 have h12:=bU H12.out
 have ZG:=HB4.out
 have h41:=HN.out
 have h42:=HN2.out
 have h43:=HN3.out
 have hwx:w.heap.size≤wx.heap.size:=by omega
 have hAl:0<f.f2.length→∀ a,A2=some a→a.block<(wx.alloc (.cells #[.string f.f0,.int .i64 f.f1,.slice A2 f.f2.length c2] 54)).heap.size:=fun hn a e=>by have:=aIj HI2.out hn a e;omega
 have hIx:(IA w (some adc) c1 code p j f A2 c2 b4 b5 b6 b7 b8 b10 b11 g b12 (.slice (some (adc.add p.toNat)) m (c1-p.toNat)) part (wx.alloc (.cells #[.string f.f0,.int .i64 f.f1,.slice A2 f.f2.length c2] 54)).heap.size) [] (wx.alloc (.cells #[.string f.f0,.int .i64 f.f1,.slice A2 f.f2.length c2] 54)):=⟨HW.out.alloc _,fU H12.out _,Nat.le_refl _,fun x hx=>by cases hx⟩
 refine wpIn_rangeFunc_ownH rfl (by decide) (gf:=93) (lb:=#[.pointer (some ⟨wx.heap.size,0,none⟩)]) rfl trivial (enters_of Try.func93 aQ rfl)
  (UQ _ (by decide) wx.heap.size f.f0 f.f1 A2 c2 f.f2 (by have:=HFF.out.1;omega) _ bL (Kd.dP HI2.out (HW.out.alloc _).2.2.2)) aGN (aGO hlx hAl) (Below.refl _ _) (fun _=>rfl)
  (IA w (some adc) c1 code p j f A2 c2 b4 b5 b6 b7 b8 b10 b11 g b12 (.slice (some (adc.add p.toNat)) m (c1-p.toNat)) part (wx.alloc (.cells #[.string f.f0,.int .i64 f.f1,.slice A2 f.f2.length c2] 54)).heap.size) (IX w b6 b7 b8 part f.f2) (aTa _ (by omega) (by omega)) (fun c=>aTb c _ (by omega)) hIx
  (AxB (wx.alloc (.cells #[.string f.f0,.int .i64 f.f1,.slice A2 f.f2.length c2] 54)).heap.size (fun p13 p52=>#[.slice (some ad) t.length c0,.slice (some adc) code.length c1,.int .i64 p,undef,.pointer (some ⟨b4,0,none⟩),.pointer (some ⟨b5,0,none⟩),.pointer (some ⟨b6,0,none⟩),.pointer (some ⟨b7,0,none⟩),.pointer (some ⟨b8,0,none⟩),.int .i64 j,.pointer (some ⟨b10,0,none⟩),.pointer (some ⟨b11,0,none⟩),.pointer (some ⟨b12,0,none⟩),p13,undef,.slice (some ad) t.length c0,.func (.func 89) #[] #[.pointer (some ⟨b4,0,none⟩),.pointer (some ⟨b5,0,none⟩)],.int .i64 j,.int .i64 j,.bool false,.bool false,.int .i64 p,.slice (some ad) t.length c0,.int .i64 j,.pointer (some (ad.add (j.toNat*3))),.agg #[.string f.f0,.int .i64 f.f1,.slice A2 f.f2.length c2],.int .i64 m,.int .i64 (p+m),.slice (some adc) code.length c1,.int .i64 code.length,.bool false,.bool false,undef,.slice (some ad) t.length c0,.int .i64 j,.pointer (some (ad.add (j.toNat*3))),.agg #[.string f.f0,.int .i64 f.f1,.slice A2 f.f2.length c2],.int .i64 j,.pointer (some ⟨b10,2,none⟩),.slice A2 f.f2.length c2,.int .i64 f.f2.length,.slice (some ⟨g,0,none⟩) f.f2.length f.f2.length,.agg #[.int .i64 j,.slice (some ⟨g,0,none⟩) f.f2.length f.f2.length],.slice (some adc) code.length c1,.int .i64 p,.int .i64 p,.agg #[.string f.f0,.int .i64 f.f1,.slice A2 f.f2.length c2],.int .i64 m,.int .i64 (p+m),.slice (some (adc.add p.toNat)) m (c1-p.toNat),.agg #[.string f.f0,.int .i64 f.f1,.slice A2 f.f2.length c2],.func (.func 93) #[] #[.pointer (some ⟨wx.heap.size,0,none⟩)],p52,undef,undef,undef,undef,undef,undef,undef,undef,undef,undef,undef,undef,undef,undef,undef,undef,undef,undef,undef,undef,undef,undef,undef,undef,undef,undef,undef,undef,undef,undef,undef,undef,undef,undef,undef,undef,undef,undef,undef,undef,undef,undef,undef,undef,undef,undef,undef,undef]) f.f2) (fun x a'=>aGP _ _ _ _ x a') ?assign ?body ?done ?stop
 case assign =>
  rintro l pre x W K ⟨hA,h12,hlo,hok⟩ hK
  clear ZG
  gi_wp2
  have ZG:=HB4.out
  have hlt:wx.heap.size<W.heap.size:=by omega
  refine hK _ _ ((KeepsOthers.alloc W _).from _) ⟨?_,fun hn a e=>?_⟩ ⟨hA.alloc _,fU h12 _,Nat.le_trans hlo (by simp),hok⟩ ⟨W.heap.size,hlo,rfl,pY W _⟩
  ·exact Below.heap_alloc W _ _ hlt
  ·exact Below.heap_alloc W _ _ (by have:=hAl hn a e;omega)
 case stop =>
  rintro D c pre W hD _ ⟨⟨rfl,hoa⟩,⟨h6,h7,h8⟩,hBe⟩ hdf
  clear ZG
  gi_wp2_with (fail)
  refine ⟨by simp,.inl ⟨_,_,rfl,run_takeDeferred hdf,?_⟩⟩
  have g1:=grownBy_putObj' W D (.deferred none)
  have hrr:∀ r,some D=some r→∃ o:Obj,W.heap[r]?=some o∧o.isCells=false:=fun r e=>by cases e;exact ⟨_,hdf,rfl⟩
  have ZG:=HB4.out
  refine ⟨_,GH _ _ b6 b7 b8 0 (.slice none 0 0) 0 false rfl rfl rfl (cells_kept h6 g1 hrr) (cells_kept h7 g1 hrr) (cells_kept h8 g1 hrr),?_⟩
  rw [aNS HJ.out hj0 HF.out HM.out hlong (by rw [HPE.out];exact hoa)]
  exact ⟨_,rfl,Kd.BV _ _ _ _ _,hBe.trans (belowK_b (w:=w) (Nat.le_refl _) W D _ _ (by omega) hdf rfl rfl)⟩
 case done =>
  rintro D xs W hD hxs ⟨hA,h12,hlo,hok⟩ hdf
  have hoa:=aTc xs hxs hok
  rw [hxs] at hA
  have HA:=aA.mk hA
  have H12:=aA.mk h12
  have HOA:=aA.mk hoa
  have HDF:=aA.mk hdf
  have hrl:=Xp f.f2
  have hr4:=HFF.out.1
  have aTi:kF.f 100 f.f0 f.f1 f.f2=some (regs f.f2:Int):=by
   unfold kF.f;have e:=aGQ f.f2 (by omega) f.f2.length 100 0 0 (by omega) (by omega) (by omega);rw [show ((0:Nat):Int)=0 from rfl,List.drop_zero,Nat.zero_add] at e;exact e
  have hm1:=HM.out
  have hri:1+(regs f.f2:Int) / 2<(m:Int)∨regs f.f2%2=0:=by
   unfold oH at hm1;omega
  clear hm1
  have aKG:aCT part f.f2=(decide (regs f.f2%2=1)&&!(rd part (1+(regs f.f2:Int) / 2) / 16==0)):=rfl
  generalize regs f.f2=n at aTi hri aKG hrl
  have aTj:=aA.mk aTi
  have aTk:=aA.mk aKG
  have hn4:n≤4:=by omega
  have hc0:W.cell? ⟨b10,0,none⟩=some (.string f.f0):=(aC HA.out.2.1.1 0).trans rfl
  have hc1:W.cell? ⟨b10,1,none⟩=some (.int .i64 f.f1):=(aC HA.out.2.1.1 1).trans rfl
  have hc2:W.cell? ⟨b10,2,none⟩=some (.slice A2 f.f2.length c2):=(aC HA.out.2.1.1 2).trans rfl
  clear hA h12 hoa hdf aTi aKG hok ZG
  by_cases hodd:n%2=1
  ·have ho1:((n:Int)%2==1)=true:=beq_iff_eq.2 (by omega);have hq0:0≤1+(n:Int) / 2:=by omega
   have hq1:1+(n:Int) / 2<(m:Int):=by omega
   by_cases hz:rd part (1+(n:Int) / 2) / 16=0
   ·have hz1:(rd part (1+(n:Int) / 2) / 16==0)=true:=beq_iff_eq.2 hz;have hz2:(rd part (1+(n:Int) / 2) / 16 != 0)=false:=bne_eq_false_iff_eq.2 hz;have hpf:(decide (n%2=1)&&!(rd part (1+(n:Int) / 2) / 16==0))=false:=by rw [hz1];simp
    clear hz
    gi_wp2_with (gi_at_call 84;refine (callsIn_wide.2 (kF.calls 100 f.f0 f.f1 A2 c2 f.f2 _ _ (Kd.dP HI2.out HA.out.2.2.2) HL2.out aTj.out)).mono ?_;rintro e w3 ⟨rfl,hb⟩;have Xq:=aA.mk (HA.out.below hb);have UR:=aA.mk (aK H12.out hb);have aEh:=aA.mk ((hb.block D (Array.getElem?_eq_some_iff.1 HDF.out).1).trans HDF.out);clear hb hc0 hc1 hc2;have hc12:w3.cell? ⟨b12,0,none⟩=some (.slice (some (adc.add p.toNat)) m (c1-p.toNat)):=(aC UR.out 0).trans rfl;obtain ⟨ax,ex,hcx⟩:=Kd.jJ (Kd.dP HP.out Xq.out.2.2.2) (1+(n:Int) / 2) hq0 (by have:=HPL.out;omega);cases ex;rw [show (1+(n:Int) / 2).toNat=1+n / 2 by omega] at hcx)
    have aTl:((m:Nat):Int)=(m:Int):=rfl;refine EF (m:=6) (S:=fun w'=>w'.cell? ⟨b11,0,none⟩=some (.int .i64 j)∧w'.cell? ⟨b11,1,none⟩=some (.slice (some ⟨g,0,none⟩) f.f2.length f.f2.length)∧w'.cell? ⟨b12,0,none⟩=some (.slice (some (adc.add p.toNat)) m (c1-p.toNat))) (ds:=[4,5]) #[false,false,false,false,false,false] aQ rfl rfl ⟨(aC Xq.out.2.1.2 0).trans rfl,(aC Xq.out.2.1.2 1).trans rfl,hc12⟩ (fun hHeld=>?_);have YE:=aA.mk Xq.out.drew;have aBj:=aA.mk (dY UR.out);have aKH:=aA.mk (show w3.drew.heap[D]?=some (.deferred (some [])) from aEh.out);clear Xq UR aEh hc12;generalize w3.drew=w4 at YE aBj aKH hHeld ⊢;refine iQ (i:=0) (N:=some 98) (v:=?_) (a':=?_) #[true,false,false,false,false,false] rfl rfl aQ (fun _ _ _ h=>h) (bG ?_) hHeld ?_ ?_;rotate_left
    ·rintro w' ⟨s0,s1,s2⟩;go_simp;with_reducible rfl
    rotate_left
    ·simp only [Act.put,aX];rfl
    refine iQ (i:=1) (N:=some 99) (v:=?_) (a':=?_) #[true,true,false,false,false,false] rfl rfl aQ (fun _ _ _ h=>h) (bG ?_) hHeld ?_ ?_;rotate_left
    ·rintro w' ⟨s0,s1,s2⟩;go_simp;with_reducible rfl
    rotate_left
    ·simp only [Act.put,aX];rfl
    refine bQ (i:=2) (N:=some 100) (v:=?_) (a':=?_) #[true,true,true,false,false,false] rfl rfl aQ (fun _ _ _ h=>h) (bG ?_) ?_ ?_;rotate_left
    ·intro w';go_simp;with_reducible rfl
    rotate_left
    ·simp only [Act.put,aX];rfl
    have P6:=aA.mk YE.out.1.2.2.1;have P7:=aA.mk YE.out.1.2.2.2.1;have P8:=aA.mk YE.out.1.2.2.2.2;have aKw:w4.cell? ⟨b6,0,none⟩=some (.int .i64 0):=(aC (P6.out) 0).trans rfl;have aKx:w4.cell? ⟨b6,1,none⟩=some (.slice none 0 0):=(aC (P6.out) 1).trans rfl;have aKy:w4.cell? ⟨b7,0,none⟩=some (.int .i64 0):=(aC (P7.out) 0).trans rfl;have aKz:w4.cell? ⟨b8,0,none⟩=some (.bool false):=(aC (P8.out) 0).trans rfl;have aKA:=aG (P6.out) 0;have aKB:=aG (P6.out) 1;have aKC:=aG (P7.out) 0;have aKD:=aG (P8.out) 0;have Oq:b6≠b7:=(by have:=HN.out;omega);have Ot:b6≠b8:=(by have:=HN.out;omega);have Ou:b7≠b8:=(by have:=HN.out;omega);have Ov:=Oq.symm;have Ox:=Ot.symm;have YB:=Ou.symm;refine wL (i:=3) (N:=none) #[true,true,true,true,false,false] rfl rfl aQ (by decide) (fun K hK=>?_);refine BP (w1:=?_) (by rfl) rfl ?_ ?_;rotate_left
    ·go_simp;rfl
    have k11:=aU (p:=⟨b6,1,none⟩) (aU (p:=⟨b6,0,none⟩) YE.out.2.1.2 (show b11≠b6 by omega) (.int .i64 j)) (show b11≠b6 by omega) (.slice (some ⟨g,0,none⟩) f.f2.length f.f2.length);have k12:=aU (p:=⟨b6,1,none⟩) (aU (p:=⟨b6,0,none⟩) aBj.out (show b12≠b6 by omega) (.int .i64 j)) (show b12≠b6 by omega) (.slice (some ⟨g,0,none⟩) f.f2.length f.f2.length);refine hK.out _ _ ⟨(aC k11 0).trans rfl,(aC k11 1).trans rfl,(aC k12 0).trans rfl⟩ (fun hHeld=>?_);clear hK K k11 k12;refine NP (i:=4) (N:=none) #[true,true,true,true,true,false] rfl rfl aQ (by decide) (fun K hK=>?_);refine BP (w1:=?_) (by rfl) rfl ?_ ?_;rotate_left
    ·go_simp;rfl
    refine hK.out _ _ ?_;clear hK K;refine NP (i:=5) (N:=none) #[true,true,true,true,true,true] rfl rfl aQ (by decide) (fun K hK=>?_);refine BP (w1:=?_) (by rfl) rfl ?_ ?_;rotate_left
    ·go_simp;rfl
    refine hK.out _ _ (sG aQ (EE ?_));clear hK K;have ZG:=HB4.out;have hD6:D≠b6:=by omega
    have hD7:D≠b7:=by omega
    have hD8:D≠b8:=by omega
    have F6:=aA.mk (show ((((w4.setCell ⟨b6,0,none⟩ (.int .i64 j)).setCell ⟨b6,1,none⟩ (.slice (some ⟨g,0,none⟩) f.f2.length f.f2.length)).setCell ⟨b7,0,none⟩ (.int .i64 m)).setCell ⟨b8,0,none⟩ (.bool true)).heap[b6]?=some (.cells #[.int .i64 j,.slice (some ⟨g,0,none⟩) f.f2.length f.f2.length] 65 (0,0)) from by refine aU ?_ Ot _;refine aU ?_ Oq _;refine aY (cs:=#[.int .i64 j,.slice none 0 0]) ?_ 1 _ rfl;refine aY (cs:=#[.int .i64 0,.slice none 0 0]) ?_ 0 _ rfl;exact P6.out);have F7:=aA.mk (show ((((w4.setCell ⟨b6,0,none⟩ (.int .i64 j)).setCell ⟨b6,1,none⟩ (.slice (some ⟨g,0,none⟩) f.f2.length f.f2.length)).setCell ⟨b7,0,none⟩ (.int .i64 m)).setCell ⟨b8,0,none⟩ (.bool true)).heap[b7]?=some (.cells #[.int .i64 m] 3 (0,0)) from by refine aU ?_ Ou _;refine aY (cs:=#[.int .i64 0]) ?_ 0 _ rfl;refine aU ?_ Ov _;refine aU ?_ Ov _;exact P7.out);have F8:=aA.mk (show ((((w4.setCell ⟨b6,0,none⟩ (.int .i64 j)).setCell ⟨b6,1,none⟩ (.slice (some ⟨g,0,none⟩) f.f2.length f.f2.length)).setCell ⟨b7,0,none⟩ (.int .i64 m)).setCell ⟨b8,0,none⟩ (.bool true)).heap[b8]?=some (.cells #[.bool true] 4 (0,0)) from by refine aY (cs:=#[.bool false]) ?_ 0 _ rfl;refine aU ?_ YB _;refine aU ?_ Ox _;refine aU ?_ Ox _;exact P8.out)
    have F9:=aA.mk (show ((((w4.setCell ⟨b6,0,none⟩ (.int .i64 j)).setCell ⟨b6,1,none⟩ (.slice (some ⟨g,0,none⟩) f.f2.length f.f2.length)).setCell ⟨b7,0,none⟩ (.int .i64 m)).setCell ⟨b8,0,none⟩ (.bool true)).heap[D]?=some (.deferred (some [])) from (Below.heap_setCell _ _ _ _ hD8).trans ((Below.heap_setCell _ _ _ _ hD7).trans ((Below.heap_setCell _ _ _ _ hD6).trans ((Below.heap_setCell _ _ _ _ hD6).trans aKH.out))));have FB:=aA.mk (show Below w.heap.size w ((((w4.setCell ⟨b6,0,none⟩ (.int .i64 j)).setCell ⟨b6,1,none⟩ (.slice (some ⟨g,0,none⟩) f.f2.length f.f2.length)).setCell ⟨b7,0,none⟩ (.int .i64 m)).setCell ⟨b8,0,none⟩ (.bool true)) from iO (iO (iO (iO YE.out.2.2.2 (by omega)) (by omega)) (by omega)) (by omega));have hg6:g≠b6:=by omega
    have hg7:g≠b7:=by omega
    have hg8:g≠b8:=by omega
    have FR:=aA.mk (Kd.dO (p:=⟨b8,0,none⟩) (Kd.dO (p:=⟨b7,0,none⟩) (Kd.dO (p:=⟨b6,1,none⟩) (Kd.dO (p:=⟨b6,0,none⟩) YE.out.2.2.1 (fun k hk=>by subst hk;exact hg6) (.int .i64 j)) (fun k hk=>by subst hk;exact hg6) (.slice (some ⟨g,0,none⟩) f.f2.length f.f2.length)) (fun k hk=>by subst hk;exact hg7) (.int .i64 m)) (fun k hk=>by subst hk;exact hg8) (.bool true));clear ZG;generalize ((((w4.setCell ⟨b6,0,none⟩ (.int .i64 j)).setCell ⟨b6,1,none⟩ (.slice (some ⟨g,0,none⟩) f.f2.length f.f2.length)).setCell ⟨b7,0,none⟩ (.int .i64 m)).setCell ⟨b8,0,none⟩ (.bool true))=w9 at F6 F7 F8 F9 FB FR ⊢
    gi_wp2_with (fail)
    refine ⟨by simp,.inl ⟨_,_,rfl,run_takeDeferred F9.out,?_⟩⟩;have g1:=grownBy_putObj' w9 D (.deferred none);have hrr:∀ r,some D=some r→∃ o:Obj,w9.heap[r]?=some o∧o.isCells=false:=fun r e=>by cases e;exact ⟨_,F9.out,rfl⟩
    refine ⟨_,GH _ _ b6 b7 b8 j (.slice (some ⟨g,0,none⟩) f.f2.length f.f2.length) m true rfl rfl rfl (cells_kept F6.out g1 hrr) (cells_kept F7.out g1 hrr) (cells_kept F8.out g1 hrr),?_⟩;rw [aGM HJ.out hj0 HF.out HM.out hlong (by rw [HPE.out];exact HOA.out) (by rw [HPE.out,aTk.out];exact hpf),HPE.out];exact ⟨_,rfl,Kd.dX (Kd.Tf FR.out g1 (fun k hk he=>by cases he;omega)) (fun _ _=>trivial),FB.out.trans (belowK_b (w:=w) (Nat.le_refl _) _ D _ _ (by omega) F9.out rfl rfl)⟩
   ·have hz1:(rd part (1+(n:Int) / 2) / 16==0)=false:=beq_eq_false_iff_ne.2 hz;have hz2:(rd part (1+(n:Int) / 2) / 16 != 0)=true:=bne_iff_ne.2 hz
    gi_wp2_with (gi_at_call 84;refine (callsIn_wide.2 (kF.calls 100 f.f0 f.f1 A2 c2 f.f2 _ _ (Kd.dP HI2.out HA.out.2.2.2) HL2.out aTj.out)).mono ?_;rintro e w3 ⟨rfl,hb⟩;have Xq:=aA.mk (HA.out.below hb);have UR:=aA.mk (aK H12.out hb);have aEh:=aA.mk ((hb.block D (Array.getElem?_eq_some_iff.1 HDF.out).1).trans HDF.out);clear hb hc0 hc1 hc2;have hc12:w3.cell? ⟨b12,0,none⟩=some (.slice (some (adc.add p.toNat)) m (c1-p.toNat)):=(aC UR.out 0).trans rfl;obtain ⟨ax,ex,hcx⟩:=Kd.jJ (Kd.dP HP.out Xq.out.2.2.2) (1+(n:Int) / 2) hq0 (by have:=HPL.out;omega);cases ex;rw [show (1+(n:Int) / 2).toNat=1+n / 2 by omega] at hcx;have P6:=aA.mk Xq.out.1.2.2.1;have P7:=aA.mk Xq.out.1.2.2.2.1;have P8:=aA.mk Xq.out.1.2.2.2.2;have aKw:w3.cell? ⟨b6,0,none⟩=some (.int .i64 0):=(aC (P6.out) 0).trans rfl;have aKx:w3.cell? ⟨b6,1,none⟩=some (.slice none 0 0):=(aC (P6.out) 1).trans rfl;have aKy:w3.cell? ⟨b7,0,none⟩=some (.int .i64 0):=(aC (P7.out) 0).trans rfl;have aKz:w3.cell? ⟨b8,0,none⟩=some (.bool false):=(aC (P8.out) 0).trans rfl;have aKA:=aG (P6.out) 0;have aKB:=aG (P6.out) 1;have aKC:=aG (P7.out) 0;have aKD:=aG (P8.out) 0;have Oq:b6≠b7:=(by have:=HN.out;omega);have Ot:b6≠b8:=(by have:=HN.out;omega);have Ou:b7≠b8:=(by have:=HN.out;omega);have Ov:=Oq.symm;have Ox:=Ot.symm;have YB:=Ou.symm)
    have ZG:=HB4.out;have hD6:D≠b6:=by omega
    have hD7:D≠b7:=by omega
    have hD8:D≠b8:=by omega
    have F6:=aA.mk (show ((((w3.setCell ⟨b6,0,none⟩ (.int .i64 0)).setCell ⟨b6,1,none⟩ (.slice none 0 0)).setCell ⟨b7,0,none⟩ (.int .i64 0)).setCell ⟨b8,0,none⟩ (.bool false)).heap[b6]?=some (.cells #[.int .i64 0,.slice none 0 0] 65 (0,0)) from by refine aU ?_ Ot _;refine aU ?_ Oq _;refine aY (cs:=#[.int .i64 0,.slice none 0 0]) ?_ 1 _ rfl;refine aY (cs:=#[.int .i64 0,.slice none 0 0]) ?_ 0 _ rfl;exact P6.out);have F7:=aA.mk (show ((((w3.setCell ⟨b6,0,none⟩ (.int .i64 0)).setCell ⟨b6,1,none⟩ (.slice none 0 0)).setCell ⟨b7,0,none⟩ (.int .i64 0)).setCell ⟨b8,0,none⟩ (.bool false)).heap[b7]?=some (.cells #[.int .i64 0] 3 (0,0)) from by refine aU ?_ Ou _;refine aY (cs:=#[.int .i64 0]) ?_ 0 _ rfl;refine aU ?_ Ov _;refine aU ?_ Ov _;exact P7.out);have F8:=aA.mk (show ((((w3.setCell ⟨b6,0,none⟩ (.int .i64 0)).setCell ⟨b6,1,none⟩ (.slice none 0 0)).setCell ⟨b7,0,none⟩ (.int .i64 0)).setCell ⟨b8,0,none⟩ (.bool false)).heap[b8]?=some (.cells #[.bool false] 4 (0,0)) from by refine aY (cs:=#[.bool false]) ?_ 0 _ rfl;refine aU ?_ YB _;refine aU ?_ Ox _;refine aU ?_ Ox _;exact P8.out)
    have F9:=aA.mk (show ((((w3.setCell ⟨b6,0,none⟩ (.int .i64 0)).setCell ⟨b6,1,none⟩ (.slice none 0 0)).setCell ⟨b7,0,none⟩ (.int .i64 0)).setCell ⟨b8,0,none⟩ (.bool false)).heap[D]?=some (.deferred (some [])) from (Below.heap_setCell _ _ _ _ hD8).trans ((Below.heap_setCell _ _ _ _ hD7).trans ((Below.heap_setCell _ _ _ _ hD6).trans ((Below.heap_setCell _ _ _ _ hD6).trans aEh.out))));have FB:=aA.mk (show Below w.heap.size w ((((w3.setCell ⟨b6,0,none⟩ (.int .i64 0)).setCell ⟨b6,1,none⟩ (.slice none 0 0)).setCell ⟨b7,0,none⟩ (.int .i64 0)).setCell ⟨b8,0,none⟩ (.bool false)) from iO (iO (iO (iO Xq.out.2.2.2 (by omega)) (by omega)) (by omega)) (by omega));have hg6:g≠b6:=by omega
    have hg7:g≠b7:=by omega
    have hg8:g≠b8:=by omega
    have FR:=aA.mk (Kd.dO (p:=⟨b8,0,none⟩) (Kd.dO (p:=⟨b7,0,none⟩) (Kd.dO (p:=⟨b6,1,none⟩) (Kd.dO (p:=⟨b6,0,none⟩) Xq.out.2.2.1 (fun k hk=>by subst hk;exact hg6) (.int .i64 0)) (fun k hk=>by subst hk;exact hg6) (.slice none 0 0)) (fun k hk=>by subst hk;exact hg7) (.int .i64 0)) (fun k hk=>by subst hk;exact hg8) (.bool false));clear ZG;generalize ((((w3.setCell ⟨b6,0,none⟩ (.int .i64 0)).setCell ⟨b6,1,none⟩ (.slice none 0 0)).setCell ⟨b7,0,none⟩ (.int .i64 0)).setCell ⟨b8,0,none⟩ (.bool false))=w9 at F6 F7 F8 F9 FB FR ⊢;refine ⟨by simp,.inl ⟨_,_,rfl,run_takeDeferred F9.out,?_⟩⟩;have g1:=grownBy_putObj' w9 D (.deferred none);have hrr:∀ r,some D=some r→∃ o:Obj,w9.heap[r]?=some o∧o.isCells=false:=fun r e=>by cases e;exact ⟨_,F9.out,rfl⟩
    refine ⟨_,GH _ _ b6 b7 b8 0 (.slice none 0 0) 0 false rfl rfl rfl (cells_kept F6.out g1 hrr) (cells_kept F7.out g1 hrr) (cells_kept F8.out g1 hrr),?_⟩;rw [aTf HJ.out hj0 HF.out HM.out hlong (by rw [HPE.out];exact HOA.out) (by rw [HPE.out,aTk.out,fB hodd,beq_eq_false_iff_ne.2 hz];rfl)];exact ⟨_,rfl,Kd.BV _ _ _ _ _,FB.out.trans (belowK_b (w:=w) (Nat.le_refl _) _ D _ _ (by omega) F9.out rfl rfl)⟩
  ·have ho1:((n:Int)%2==1)=false:=beq_eq_false_iff_ne.2 (by omega);have hpf:(decide (n%2=1)&&!(rd part (1+(n:Int) / 2) / 16==0))=false:=by rw [kT hodd];rfl
   gi_wp2_with (gi_at_call 84;refine (callsIn_wide.2 (kF.calls 100 f.f0 f.f1 A2 c2 f.f2 _ _ (Kd.dP HI2.out HA.out.2.2.2) HL2.out aTj.out)).mono ?_;rintro e w3 ⟨rfl,hb⟩;have Xq:=aA.mk (HA.out.below hb);have UR:=aA.mk (aK H12.out hb);have aEh:=aA.mk ((hb.block D (Array.getElem?_eq_some_iff.1 HDF.out).1).trans HDF.out);clear hb hc0 hc1 hc2;have hc12:w3.cell? ⟨b12,0,none⟩=some (.slice (some (adc.add p.toNat)) m (c1-p.toNat)):=(aC UR.out 0).trans rfl;have ht0:True:=trivial)
   have aTl:((m:Nat):Int)=(m:Int):=rfl;refine EF (m:=6) (S:=fun w'=>w'.cell? ⟨b11,0,none⟩=some (.int .i64 j)∧w'.cell? ⟨b11,1,none⟩=some (.slice (some ⟨g,0,none⟩) f.f2.length f.f2.length)∧w'.cell? ⟨b12,0,none⟩=some (.slice (some (adc.add p.toNat)) m (c1-p.toNat))) (ds:=[4,5]) #[false,false,false,false,false,false] aQ rfl rfl ⟨(aC Xq.out.2.1.2 0).trans rfl,(aC Xq.out.2.1.2 1).trans rfl,hc12⟩ (fun hHeld=>?_);have YE:=aA.mk Xq.out.drew;have aBj:=aA.mk (dY UR.out);have aKH:=aA.mk (show w3.drew.heap[D]?=some (.deferred (some [])) from aEh.out);clear Xq UR aEh hc12;generalize w3.drew=w4 at YE aBj aKH hHeld ⊢;refine iQ (i:=0) (N:=some 98) (v:=?_) (a':=?_) #[true,false,false,false,false,false] rfl rfl aQ (fun _ _ _ h=>h) (bG ?_) hHeld ?_ ?_;rotate_left
   ·rintro w' ⟨s0,s1,s2⟩;go_simp;with_reducible rfl
   rotate_left
   ·simp only [Act.put,aX];rfl
   refine iQ (i:=1) (N:=some 99) (v:=?_) (a':=?_) #[true,true,false,false,false,false] rfl rfl aQ (fun _ _ _ h=>h) (bG ?_) hHeld ?_ ?_;rotate_left
   ·rintro w' ⟨s0,s1,s2⟩;go_simp;with_reducible rfl
   rotate_left
   ·simp only [Act.put,aX];rfl
   refine bQ (i:=2) (N:=some 100) (v:=?_) (a':=?_) #[true,true,true,false,false,false] rfl rfl aQ (fun _ _ _ h=>h) (bG ?_) ?_ ?_;rotate_left
   ·intro w';go_simp;with_reducible rfl
   rotate_left
   ·simp only [Act.put,aX];rfl
   have P6:=aA.mk YE.out.1.2.2.1;have P7:=aA.mk YE.out.1.2.2.2.1;have P8:=aA.mk YE.out.1.2.2.2.2;have aKw:w4.cell? ⟨b6,0,none⟩=some (.int .i64 0):=(aC (P6.out) 0).trans rfl;have aKx:w4.cell? ⟨b6,1,none⟩=some (.slice none 0 0):=(aC (P6.out) 1).trans rfl;have aKy:w4.cell? ⟨b7,0,none⟩=some (.int .i64 0):=(aC (P7.out) 0).trans rfl;have aKz:w4.cell? ⟨b8,0,none⟩=some (.bool false):=(aC (P8.out) 0).trans rfl;have aKA:=aG (P6.out) 0;have aKB:=aG (P6.out) 1;have aKC:=aG (P7.out) 0;have aKD:=aG (P8.out) 0;have Oq:b6≠b7:=(by have:=HN.out;omega);have Ot:b6≠b8:=(by have:=HN.out;omega);have Ou:b7≠b8:=(by have:=HN.out;omega);have Ov:=Oq.symm;have Ox:=Ot.symm;have YB:=Ou.symm;refine wL (i:=3) (N:=none) #[true,true,true,true,false,false] rfl rfl aQ (by decide) (fun K hK=>?_);refine BP (w1:=?_) (by rfl) rfl ?_ ?_;rotate_left
   ·go_simp;rfl
   have k11:=aU (p:=⟨b6,1,none⟩) (aU (p:=⟨b6,0,none⟩) YE.out.2.1.2 (show b11≠b6 by omega) (.int .i64 j)) (show b11≠b6 by omega) (.slice (some ⟨g,0,none⟩) f.f2.length f.f2.length);have k12:=aU (p:=⟨b6,1,none⟩) (aU (p:=⟨b6,0,none⟩) aBj.out (show b12≠b6 by omega) (.int .i64 j)) (show b12≠b6 by omega) (.slice (some ⟨g,0,none⟩) f.f2.length f.f2.length);refine hK.out _ _ ⟨(aC k11 0).trans rfl,(aC k11 1).trans rfl,(aC k12 0).trans rfl⟩ (fun hHeld=>?_);clear hK K k11 k12;refine NP (i:=4) (N:=none) #[true,true,true,true,true,false] rfl rfl aQ (by decide) (fun K hK=>?_);refine BP (w1:=?_) (by rfl) rfl ?_ ?_;rotate_left
   ·go_simp;rfl
   refine hK.out _ _ ?_;clear hK K;refine NP (i:=5) (N:=none) #[true,true,true,true,true,true] rfl rfl aQ (by decide) (fun K hK=>?_);refine BP (w1:=?_) (by rfl) rfl ?_ ?_;rotate_left
   ·go_simp;rfl
   refine hK.out _ _ (sG aQ (EE ?_));clear hK K;have ZG:=HB4.out;have hD6:D≠b6:=by omega
   have hD7:D≠b7:=by omega
   have hD8:D≠b8:=by omega
   have F6:=aA.mk (show ((((w4.setCell ⟨b6,0,none⟩ (.int .i64 j)).setCell ⟨b6,1,none⟩ (.slice (some ⟨g,0,none⟩) f.f2.length f.f2.length)).setCell ⟨b7,0,none⟩ (.int .i64 m)).setCell ⟨b8,0,none⟩ (.bool true)).heap[b6]?=some (.cells #[.int .i64 j,.slice (some ⟨g,0,none⟩) f.f2.length f.f2.length] 65 (0,0)) from by refine aU ?_ Ot _;refine aU ?_ Oq _;refine aY (cs:=#[.int .i64 j,.slice none 0 0]) ?_ 1 _ rfl;refine aY (cs:=#[.int .i64 0,.slice none 0 0]) ?_ 0 _ rfl;exact P6.out);have F7:=aA.mk (show ((((w4.setCell ⟨b6,0,none⟩ (.int .i64 j)).setCell ⟨b6,1,none⟩ (.slice (some ⟨g,0,none⟩) f.f2.length f.f2.length)).setCell ⟨b7,0,none⟩ (.int .i64 m)).setCell ⟨b8,0,none⟩ (.bool true)).heap[b7]?=some (.cells #[.int .i64 m] 3 (0,0)) from by refine aU ?_ Ou _;refine aY (cs:=#[.int .i64 0]) ?_ 0 _ rfl;refine aU ?_ Ov _;refine aU ?_ Ov _;exact P7.out);have F8:=aA.mk (show ((((w4.setCell ⟨b6,0,none⟩ (.int .i64 j)).setCell ⟨b6,1,none⟩ (.slice (some ⟨g,0,none⟩) f.f2.length f.f2.length)).setCell ⟨b7,0,none⟩ (.int .i64 m)).setCell ⟨b8,0,none⟩ (.bool true)).heap[b8]?=some (.cells #[.bool true] 4 (0,0)) from by refine aY (cs:=#[.bool false]) ?_ 0 _ rfl;refine aU ?_ YB _;refine aU ?_ Ox _;refine aU ?_ Ox _;exact P8.out)
   have F9:=aA.mk (show ((((w4.setCell ⟨b6,0,none⟩ (.int .i64 j)).setCell ⟨b6,1,none⟩ (.slice (some ⟨g,0,none⟩) f.f2.length f.f2.length)).setCell ⟨b7,0,none⟩ (.int .i64 m)).setCell ⟨b8,0,none⟩ (.bool true)).heap[D]?=some (.deferred (some [])) from (Below.heap_setCell _ _ _ _ hD8).trans ((Below.heap_setCell _ _ _ _ hD7).trans ((Below.heap_setCell _ _ _ _ hD6).trans ((Below.heap_setCell _ _ _ _ hD6).trans aKH.out))));have FB:=aA.mk (show Below w.heap.size w ((((w4.setCell ⟨b6,0,none⟩ (.int .i64 j)).setCell ⟨b6,1,none⟩ (.slice (some ⟨g,0,none⟩) f.f2.length f.f2.length)).setCell ⟨b7,0,none⟩ (.int .i64 m)).setCell ⟨b8,0,none⟩ (.bool true)) from iO (iO (iO (iO YE.out.2.2.2 (by omega)) (by omega)) (by omega)) (by omega));have hg6:g≠b6:=by omega
   have hg7:g≠b7:=by omega
   have hg8:g≠b8:=by omega
   have FR:=aA.mk (Kd.dO (p:=⟨b8,0,none⟩) (Kd.dO (p:=⟨b7,0,none⟩) (Kd.dO (p:=⟨b6,1,none⟩) (Kd.dO (p:=⟨b6,0,none⟩) YE.out.2.2.1 (fun k hk=>by subst hk;exact hg6) (.int .i64 j)) (fun k hk=>by subst hk;exact hg6) (.slice (some ⟨g,0,none⟩) f.f2.length f.f2.length)) (fun k hk=>by subst hk;exact hg7) (.int .i64 m)) (fun k hk=>by subst hk;exact hg8) (.bool true));clear ZG;generalize ((((w4.setCell ⟨b6,0,none⟩ (.int .i64 j)).setCell ⟨b6,1,none⟩ (.slice (some ⟨g,0,none⟩) f.f2.length f.f2.length)).setCell ⟨b7,0,none⟩ (.int .i64 m)).setCell ⟨b8,0,none⟩ (.bool true))=w9 at F6 F7 F8 F9 FB FR ⊢
   gi_wp2_with (fail)
   refine ⟨by simp,.inl ⟨_,_,rfl,run_takeDeferred F9.out,?_⟩⟩;have g1:=grownBy_putObj' w9 D (.deferred none);have hrr:∀ r,some D=some r→∃ o:Obj,w9.heap[r]?=some o∧o.isCells=false:=fun r e=>by cases e;exact ⟨_,F9.out,rfl⟩
   refine ⟨_,GH _ _ b6 b7 b8 j (.slice (some ⟨g,0,none⟩) f.f2.length f.f2.length) m true rfl rfl rfl (cells_kept F6.out g1 hrr) (cells_kept F7.out g1 hrr) (cells_kept F8.out g1 hrr),?_⟩;rw [aGM HJ.out hj0 HF.out HM.out hlong (by rw [HPE.out];exact HOA.out) (by rw [HPE.out,aTk.out];exact hpf),HPE.out];exact ⟨_,rfl,Kd.dX (Kd.Tf FR.out g1 (fun k hk he=>by cases he;omega)) (fun _ _=>trivial),FB.out.trans (belowK_b (w:=w) (Nat.le_refl _) _ D _ _ (by omega) F9.out rfl rfl)⟩
 case body =>
  rintro l pre x a' W hl hrec ⟨hA,h12,hlo,hok⟩ ⟨g7,hg7,rfl,h7⟩ hlen
  obtain ⟨hx0,hx1,hx2,hx3,hx4,hx5,hx6⟩:=aKI f.f2 HFF.out.2 x.1 x.2
  have hxb:0≤x.1.bytes:=by rw [hx5];omega
  clear hx5
  have hmm:=HM.out
  have hpl:=HPL.out
  have hget:=aY2 part x.1 (rd f.f2 x.1.arg) (by omega) (by omega) (by omega) hx6 hxb (by omega)
  obtain ⟨adk,ek,hxk⟩:=Kd.jJ (Kd.dP HI2.out hA.2.2.2) x.1.arg hx0 hx1
  cases ek
  have aY5:w.cell? (adk.add x.1.arg.toNat)=some (.int .i64 (rd f.f2 x.1.arg)):=by
   obtain ⟨a,e,h⟩:=Kd.jJ HI2.out x.1.arg hx0 hx1
   cases e
   exact h
  have XK:=aA.mk aY5
  have aTm:=aA.mk hget
  have HA:=aA.mk hA
  have H12:=aA.mk h12
  have H7:=aA.mk h7
  have HLO:=aA.mk hlo
  have HOK:=aA.mk hok
  have hwg:w.heap.size≤g:=by omega
  have WG:=aA.mk hwg
  have hargs:(Dz part f.f2 (pre.map Subtype.val) (List.replicate f.f2.length 0)).length=f.f2.length:=by rw [aAf,List.length_replicate]
  have aY6:=aA.mk hargs
  generalize hae:Dz part f.f2 (pre.map Subtype.val) (List.replicate f.f2.length 0)=args at HA aY6
  have HAE:=aA.mk hae
  clear hae
  clear hget aY5 hmm hpl hA h12 h7 hok hargs ZG
  obtain ⟨kd,hkd⟩:∃ kd,rd f.f2 x.1.arg=kd:=⟨_,rfl⟩
  rw [hkd] at XK aTm hxk
  obtain ⟨v,hv⟩:∃ v,Oc part x.1 kd=v:=⟨_,rfl⟩
  rw [hv] at aTm
  have HKD:=aA.mk hkd
  have HV:=aA.mk hv
  clear hkd hv
  have pk0:(0≤x.1.arg)=True:=eq_true hx0
  have pk1:(x.1.arg<(f.f2.length:Int))=True:=eq_true hx1
  refine wpIn_block ?_
  gi_wp2_with (fail)
  refine YF (m:=15) (S:=fun w'=>w'.cell? ⟨b11,1,none⟩=some (.slice (some ⟨g,0,none⟩) f.f2.length f.f2.length)∧w'.cell? ⟨g7,0,none⟩=some (.int .i64 x.1.arg)∧w'.cell? ⟨g7,1,none⟩=some (.int .i64 x.1.off)∧w'.cell? ⟨g7,2,none⟩=some (.int .i64 x.1.bytes)∧w'.cell? ⟨g7,3,none⟩=some (.bool x.1.high)∧w'.cell? ⟨b12,0,none⟩=some (.slice (some (adc.add p.toNat)) m (c1-p.toNat))∧w'.cell? ⟨b10,2,none⟩=some (.slice (some adk) f.f2.length c2)∧w'.cell? (adk.add x.1.arg.toNat)=some (.int .i64 kd)) (ds:=[14]) aQ (by rintro ⟨a,w',h⟩;exact h) #[false,false,false,false,false,false,false,false,false,false,false,false,false,false,false] aQ rfl rfl ⟨(aC HA.out.2.1.2 1).trans rfl,(aC H7.out 0).trans rfl,(aC H7.out 1).trans rfl,(aC H7.out 2).trans rfl,(aC H7.out 3).trans rfl,(aC H12.out 0).trans rfl,(aC HA.out.2.1.1 2).trans rfl,hxk⟩ (fun hHeld=>?_)
  clear hxk
  refine bQ (i:=0) (N:=some 53) (v:=?_) (a':=?_) #[true,false,false,false,false,false,false,false,false,false,false,false,false,false,false] rfl rfl aQ (fun _ _ _ h=>h) (bG ?_) ?_ ?_
  rotate_left
  ·intro w';go_simp;with_reducible rfl
  rotate_left
  ·simp only [Act.put,aX];rfl
  refine iQ (i:=1) (N:=some 54) (v:=?_) (a':=?_) #[true,true,false,false,false,false,false,false,false,false,false,false,false,false,false] rfl rfl aQ (fun _ _ _ h=>h) (bG ?_) hHeld ?_ ?_
  rotate_left
  ·rintro w' ⟨s0,s1,s2,s3,s4,s5,s6,s7⟩;go_simp;with_reducible rfl
  rotate_left
  ·simp only [Act.put,aX];rfl
  refine bQ (i:=2) (N:=some 55) (v:=?_) (a':=?_) #[true,true,true,false,false,false,false,false,false,false,false,false,false,false,false] rfl rfl aQ (fun _ _ _ h=>h) (bG ?_) ?_ ?_
  rotate_left
  ·intro w';go_simp;with_reducible rfl
  rotate_left
  ·simp only [Act.put,aX];rfl
  refine iQ (i:=3) (N:=some 56) (v:=?_) (a':=?_) #[true,true,true,true,false,false,false,false,false,false,false,false,false,false,false] rfl rfl aQ (fun _ _ _ h=>h) (bG ?_) hHeld ?_ ?_
  rotate_left
  ·rintro w' ⟨s0,s1,s2,s3,s4,s5,s6,s7⟩;go_simp;with_reducible rfl
  rotate_left
  ·simp only [Act.put,aX];rfl
  refine iQ (i:=4) (N:=some 57) (v:=?_) (a':=?_) #[true,true,true,true,true,false,false,false,false,false,false,false,false,false,false] rfl rfl aQ (fun _ _ _ h=>h) (bG ?_) hHeld ?_ ?_
  rotate_left
  ·rintro w' ⟨s0,s1,s2,s3,s4,s5,s6,s7⟩;go_simp;with_reducible rfl
  rotate_left
  ·simp only [Act.put,aX];rfl
  refine iQ (i:=5) (N:=some 58) (v:=?_) (a':=?_) #[true,true,true,true,true,true,false,false,false,false,false,false,false,false,false] rfl rfl aQ (fun _ _ _ h=>h) (bG ?_) hHeld ?_ ?_
  rotate_left
  ·rintro w' ⟨s0,s1,s2,s3,s4,s5,s6,s7⟩;go_simp;with_reducible rfl
  rotate_left
  ·simp only [Act.put,aX];rfl
  refine bQ (i:=6) (N:=some 59) (v:=?_) (a':=?_) #[true,true,true,true,true,true,true,false,false,false,false,false,false,false,false] rfl rfl aQ (fun _ _ _ h=>h) (bG ?_) ?_ ?_
  rotate_left
  ·intro w';go_simp;with_reducible rfl
  rotate_left
  ·simp only [Act.put,aX];rfl
  refine iQ (i:=7) (N:=some 60) (v:=?_) (a':=?_) #[true,true,true,true,true,true,true,true,false,false,false,false,false,false,false] rfl rfl aQ (fun _ _ _ h=>h) (bG ?_) hHeld ?_ ?_
  rotate_left
  ·rintro w' ⟨s0,s1,s2,s3,s4,s5,s6,s7⟩;go_simp;with_reducible rfl
  rotate_left
  ·simp only [Act.put,aX];rfl
  refine bQ (i:=8) (N:=some 61) (v:=?_) (a':=?_) #[true,true,true,true,true,true,true,true,true,false,false,false,false,false,false] rfl rfl aQ (fun _ _ _ h=>h) (bG ?_) ?_ ?_
  rotate_left
  ·intro w';go_simp;with_reducible rfl
  rotate_left
  ·simp only [Act.put,aX];rfl
  refine iQ (i:=9) (N:=some 62) (v:=?_) (a':=?_) #[true,true,true,true,true,true,true,true,true,true,false,false,false,false,false] rfl rfl aQ (fun _ _ _ h=>h) (bG ?_) hHeld ?_ ?_
  rotate_left
  ·rintro w' ⟨s0,s1,s2,s3,s4,s5,s6,s7⟩;go_simp;with_reducible rfl
  rotate_left
  ·simp only [Act.put,aX];rfl
  refine bQ (i:=10) (N:=some 63) (v:=?_) (a':=?_) #[true,true,true,true,true,true,true,true,true,true,true,false,false,false,false] rfl rfl aQ (fun _ _ _ h=>h) (bG ?_) ?_ ?_
  rotate_left
  ·intro w';go_simp;with_reducible rfl
  rotate_left
  ·simp only [Act.put,aX];rfl
  refine iQ (i:=11) (N:=some 64) (v:=?_) (a':=?_) #[true,true,true,true,true,true,true,true,true,true,true,true,false,false,false] rfl rfl aQ (fun _ _ _ h=>h) (bG ?_) hHeld ?_ ?_
  rotate_left
  ·rintro w' ⟨s0,s1,s2,s3,s4,s5,s6,s7⟩;go_simp;with_reducible rfl
  rotate_left
  ·simp only [Act.put,aX];rfl
  refine wL (i:=12) (N:=some 65) #[true,true,true,true,true,true,true,true,true,true,true,true,true,false,false] rfl rfl aQ (by decide) (fun K hK=>?_)
  refine xR Try.func90 aQ rfl #[.slice (some (adc.add p.toNat)) m (c1-p.toNat),.agg #[.int .i64 x.1.arg,.int .i64 x.1.off,.int .i64 x.1.bytes,.bool x.1.high],.int .i64 kd] (by rfl) rfl rfl (by (try simp only [List.map_toArray,List.map_cons,List.map_nil]);first|done|rfl) ?_
  have hcg:=qI.calls 10 (some (adc.add p.toNat)) (c1-p.toNat) part x.1.arg x.1.off x.1.bytes x.1.high kd v W.drew (Kd.dP HP.out (fZ HA.out.2.2.2)) (by have h1:=HPL.out;have h2:=Gj.out;omega) aTm.out
  rw [HPL.out] at hcg
  refine hcg.mono ?_
  clear hcg
  rintro e w3 ⟨rfl,hb⟩
  have Xq:=aA.mk (HA.out.drew.below hb)
  have UR:=aA.mk (aK (dY H12.out) hb)
  have H73:=aA.mk (aK (dY H7.out) hb)
  have SM:=aA.mk (show W.heap.size≤w3.heap.size∧∀ k,k<W.heap.size→w3.heap[k]?=W.heap[k]? from ⟨hb.size,fun k hk=>hb.block k hk⟩)
  clear hb
  have aY7:=(Xq.out.2.2.2.cell (dM w _ XK.out)).trans XK.out
  refine ⟨_,rfl,?_⟩
  refine hK.out _ _ ⟨(aC Xq.out.2.1.2 1).trans rfl,(aC H73.out 0).trans rfl,(aC H73.out 1).trans rfl,(aC H73.out 2).trans rfl,(aC H73.out 3).trans rfl,(aC UR.out 0).trans rfl,(aC Xq.out.2.1.1 2).trans rfl,aY7⟩ (fun hHeld=>?_)
  clear hK K aY7
  refine sJ (a':=?_) ?_ ?_
  rotate_left
  ·show Act.put _ (some 65) _=_;simp only [Act.put,aX];rfl
  refine bQ (i:=13) (N:=some 66) (v:=?_) (a':=?_) #[true,true,true,true,true,true,true,true,true,true,true,true,true,true,false] rfl rfl aQ (fun _ _ _ h=>h) (bG ?_) ?_ ?_
  rotate_left
  ·intro w';go_simp;with_reducible rfl
  rotate_left
  ·simp only [Act.put,aX];rfl
  have hq:=Kd.ES (0:Int) Xq.out.2.2.1 x.1.arg hx0 hx1
  have hq0:=hq.1
  have hq1:=hq.2
  clear hq
  refine NP (i:=14) (N:=none) #[true,true,true,true,true,true,true,true,true,true,true,true,true,true,true] rfl rfl aQ (by decide) (fun K hK=>?_)
  refine BP (w1:=?_) (by rfl) rfl ?_ ?_
  rotate_left
  ·go_simp;rfl
  have YE:=aA.mk (Xq.out.put WG.out (by omega) (by omega) (by omega) (by omega) (by omega) (by omega) (by omega) x.1.arg v)
  have aBj:=aA.mk (aU UR.out (show b12≠g by omega) (.int .i64 v) (p:=⟨g,x.1.arg.toNat,none⟩))
  have H74:=aA.mk (aU H73.out (show g7≠g by omega) (.int .i64 v) (p:=⟨g,x.1.arg.toNat,none⟩))
  have hq2:=(Kd.ES (0:Int) YE.out.2.2.1 x.1.arg hx0 hx1).1
  rw [aKE _ _ _ hx0 (by rw [aY6.out];exact hx1)] at hq2
  have SM4:=aA.mk (show W.heap.size≤(w3.setCell ⟨g,x.1.arg.toNat,none⟩ (.int .i64 v)).heap.size∧∀ k,k<W.heap.size→k≠g→(w3.setCell ⟨g,x.1.arg.toNat,none⟩ (.int .i64 v)).heap[k]?=W.heap[k]? from ⟨by rw [World.size_setCell];exact SM.out.1,fun k hk hkg=>(Below.heap_setCell _ _ _ _ hkg).trans (SM.out.2 k hk)⟩)
  refine hK.out _ _ (sG aQ ?_)
  clear hK K hHeld hq0 hq1
  generalize w3.setCell ⟨g,x.1.arg.toNat,none⟩ (.int .i64 v)=w4 at YE aBj H74 hq2 SM4 ⊢
  clear SM Xq UR H73 w3
  gi_wp2_with (fail)
  have aY8:=(YE.out.2.2.2.cell (dM w _ XK.out)).trans XK.out
  obtain ⟨r,hr⟩:∃ r,Vt kd v=r:=⟨_,rfl⟩
  have hri:=aP_ kd v
  rw [hr] at hri
  have HRI:=aA.mk hri
  have HRR:=aA.mk hr
  clear hri hr
  refine YF (m:=14) (S:=fun w'=>w'.cell? ⟨b10,2,none⟩=some (.slice (some adk) f.f2.length c2)∧w'.cell? ⟨g7,0,none⟩=some (.int .i64 x.1.arg)∧w'.cell? (adk.add x.1.arg.toNat)=some (.int .i64 kd)∧w'.cell? ⟨b11,1,none⟩=some (.slice (some ⟨g,0,none⟩) f.f2.length f.f2.length)∧w'.cell? ⟨g,x.1.arg.toNat,none⟩=some (.int .i64 v)) (ds:=[]) aQ (by rintro ⟨a,w',h⟩;exact h) #[false,false,false,false,false,false,false,false,false,false,false,false,false,false] aQ rfl rfl ⟨(aC YE.out.2.1.1 2).trans rfl,(aC H74.out 0).trans rfl,aY8,(aC YE.out.2.1.2 1).trans rfl,hq2⟩ (fun hHeld=>?_)
  clear aY8 hq2
  refine bQ (i:=0) (N:=some 67) (v:=?_) (a':=?_) #[true,false,false,false,false,false,false,false,false,false,false,false,false,false] rfl rfl aQ (fun _ _ _ h=>h) (bG ?_) ?_ ?_
  rotate_left
  ·intro w';go_simp;with_reducible rfl
  rotate_left
  ·simp only [Act.put,aX];rfl
  refine iQ (i:=1) (N:=some 68) (v:=?_) (a':=?_) #[true,true,false,false,false,false,false,false,false,false,false,false,false,false] rfl rfl aQ (fun _ _ _ h=>h) (bG ?_) hHeld ?_ ?_
  rotate_left
  ·rintro w' ⟨s0,s1,s2,s3,s4⟩;go_simp;with_reducible rfl
  rotate_left
  ·simp only [Act.put,aX];rfl
  refine bQ (i:=2) (N:=some 69) (v:=?_) (a':=?_) #[true,true,true,false,false,false,false,false,false,false,false,false,false,false] rfl rfl aQ (fun _ _ _ h=>h) (bG ?_) ?_ ?_
  rotate_left
  ·intro w';go_simp;with_reducible rfl
  rotate_left
  ·simp only [Act.put,aX];rfl
  refine iQ (i:=3) (N:=some 70) (v:=?_) (a':=?_) #[true,true,true,true,false,false,false,false,false,false,false,false,false,false] rfl rfl aQ (fun _ _ _ h=>h) (bG ?_) hHeld ?_ ?_
  rotate_left
  ·rintro w' ⟨s0,s1,s2,s3,s4⟩;go_simp;with_reducible rfl
  rotate_left
  ·simp only [Act.put,aX];rfl
  refine bQ (i:=4) (N:=some 71) (v:=?_) (a':=?_) #[true,true,true,true,true,false,false,false,false,false,false,false,false,false] rfl rfl aQ (fun _ _ _ h=>h) (bG ?_) ?_ ?_
  rotate_left
  ·intro w';go_simp;with_reducible rfl
  rotate_left
  ·simp only [Act.put,aX];rfl
  refine iQ (i:=5) (N:=some 72) (v:=?_) (a':=?_) #[true,true,true,true,true,true,false,false,false,false,false,false,false,false] rfl rfl aQ (fun _ _ _ h=>h) (bG ?_) hHeld ?_ ?_
  rotate_left
  ·rintro w' ⟨s0,s1,s2,s3,s4⟩;go_simp;with_reducible rfl
  rotate_left
  ·simp only [Act.put,aX];rfl
  refine bQ (i:=6) (N:=some 73) (v:=?_) (a':=?_) #[true,true,true,true,true,true,true,false,false,false,false,false,false,false] rfl rfl aQ (fun _ _ _ h=>h) (bG ?_) ?_ ?_
  rotate_left
  ·intro w';go_simp;with_reducible rfl
  rotate_left
  ·simp only [Act.put,aX];rfl
  refine iQ (i:=7) (N:=some 74) (v:=?_) (a':=?_) #[true,true,true,true,true,true,true,true,false,false,false,false,false,false] rfl rfl aQ (fun _ _ _ h=>h) (bG ?_) hHeld ?_ ?_
  rotate_left
  ·rintro w' ⟨s0,s1,s2,s3,s4⟩;go_simp;with_reducible rfl
  rotate_left
  ·simp only [Act.put,aX];rfl
  refine bQ (i:=8) (N:=some 75) (v:=?_) (a':=?_) #[true,true,true,true,true,true,true,true,true,false,false,false,false,false] rfl rfl aQ (fun _ _ _ h=>h) (bG ?_) ?_ ?_
  rotate_left
  ·intro w';go_simp;with_reducible rfl
  rotate_left
  ·simp only [Act.put,aX];rfl
  refine iQ (i:=9) (N:=some 76) (v:=?_) (a':=?_) #[true,true,true,true,true,true,true,true,true,true,false,false,false,false] rfl rfl aQ (fun _ _ _ h=>h) (bG ?_) hHeld ?_ ?_
  rotate_left
  ·rintro w' ⟨s0,s1,s2,s3,s4⟩;go_simp;with_reducible rfl
  rotate_left
  ·simp only [Act.put,aX];rfl
  refine bQ (i:=10) (N:=some 77) (v:=?_) (a':=?_) #[true,true,true,true,true,true,true,true,true,true,true,false,false,false] rfl rfl aQ (fun _ _ _ h=>h) (bG ?_) ?_ ?_
  rotate_left
  ·intro w';go_simp;with_reducible rfl
  rotate_left
  ·simp only [Act.put,aX];rfl
  refine iQ (i:=11) (N:=some 78) (v:=?_) (a':=?_) #[true,true,true,true,true,true,true,true,true,true,true,true,false,false] rfl rfl aQ (fun _ _ _ h=>h) (bG ?_) hHeld ?_ ?_
  rotate_left
  ·rintro w' ⟨s0,s1,s2,s3,s4⟩;go_simp;with_reducible rfl
  rotate_left
  ·simp only [Act.put,aX];rfl
  refine wL (i:=12) (N:=some 79) #[true,true,true,true,true,true,true,true,true,true,true,true,true,false] rfl rfl aQ (by decide) (fun K hK=>?_)
  refine xR Try.func80 aQ rfl #[.int .i64 kd,.int .i64 v] (by rfl) rfl rfl (by (try simp only [List.map_toArray,List.map_cons,List.map_nil]);first|done|rfl) ?_
  refine (mG.calls kd v r w4.drew HRI.out).mono ?_
  rintro e w5 ⟨rfl,⟨nd,rfl⟩⟩
  refine ⟨_,rfl,?_⟩
  have HA5:=aA.mk (show Zi w (some adc) c1 code p j f (some adk) c2 b4 b5 b6 b7 b8 b10 b11 g (args.set x.1.arg.toNat v) (w4.drew.drewN nd) from YE.out.drew.below (nV (Below.refl _ _) nd))
  have aY9:=aA.mk (PI (dY aBj.out) nd)
  have SM5:=aA.mk (show W.heap.size≤(w4.drew.drewN nd).heap.size∧∀ k,k<W.heap.size→k≠g→(w4.drew.drewN nd).heap[k]?=W.heap[k]? from SM4.out)
  refine hK.out _ _ hHeld (fun hHeld=>?_)
  clear hK K
  refine sJ (a':=?_) ?_ ?_
  rotate_left
  ·show Act.put _ (some 79) _=_;simp only [Act.put,aX];rfl
  refine bQ (i:=13) (N:=some 80) (v:=?_) (a':=?_) #[true,true,true,true,true,true,true,true,true,true,true,true,true,true] rfl rfl aQ (fun _ _ _ h=>h) (bG ?_) ?_ ?_
  rotate_left
  ·intro w';go_simp;with_reducible rfl
  rotate_left
  ·simp only [Act.put,aX];rfl
  refine sG aQ ?_
  clear hHeld
  generalize w4.drew.drewN nd=w6 at HA5 aY9 SM5 ⊢
  clear YE aBj H74 SM4
  have ZG:=HB4.out
  cases r with
  | true =>
   clear ZG
   gi_wp2_with (fail)
   have ZG:=HB4.out;have hlo:=HLO.out;refine ⟨⟨SM5.out.1,fun k o hk ho hc=>(SM5.out.2 k (Array.getElem?_eq_some_iff.1 ho).1 (by omega)).trans ho⟩,⟨SM5.out.2 _ (by omega) (by omega),fun hn a e=>SM5.out.2 _ (by have:=aIj HI2.out hn a e;omega) (by have:=aIj HI2.out hn a e;omega)⟩,⟨?_,aY9.out,Nat.le_trans hlo SM5.out.1,fun y hy=>?_⟩⟩
   ·rw [List.map_append,List.map_cons,List.map_nil,aEf,HAE.out,HKD.out,HV.out];exact HA5.out
   ·rcases List.mem_append.1 hy with hy|hy
    ·exact HOK.out y hy
    ·rw [List.mem_singleton.1 hy,HKD.out,HV.out];exact HRR.out
  | false =>
   have h6:=HA5.out.1.2.2.1;have h7:=HA5.out.1.2.2.2.1;have h8:=HA5.out.1.2.2.2.2;have H6:=aA.mk h6;have H7_:=aA.mk h7;have H8:=aA.mk h8;clear h6 h7 h8 ZG;have aKw:w6.cell? ⟨b6,0,none⟩=some (.int .i64 0):=(aC (H6.out) 0).trans rfl;have aKx:w6.cell? ⟨b6,1,none⟩=some (.slice none 0 0):=(aC (H6.out) 1).trans rfl;have aKy:w6.cell? ⟨b7,0,none⟩=some (.int .i64 0):=(aC (H7_.out) 0).trans rfl;have aKz:w6.cell? ⟨b8,0,none⟩=some (.bool false):=(aC (H8.out) 0).trans rfl;have aKA:=aG (H6.out) 0;have aKB:=aG (H6.out) 1;have aKC:=aG (H7_.out) 0;have aKD:=aG (H8.out) 0;have Oq:b6≠b7:=(by have:=HN.out;omega);have Ot:b6≠b8:=(by have:=HN.out;omega);have Ou:b7≠b8:=(by have:=HN.out;omega);have Ov:=Oq.symm;have Ox:=Ot.symm;have YB:=Ou.symm
   gi_wp2_with (fail)
   have ZG:=HB4.out;have hlo:=HLO.out;have kf:KeepsFrom (wx.alloc (.cells #[.string f.f0,.int .i64 f.f1,.slice (some adk) f.f2.length c2] 54)).heap.size W w6:=⟨SM5.out.1,fun k o hk ho hc=>(SM5.out.2 k (Array.getElem?_eq_some_iff.1 ho).1 (by omega)).trans ho⟩;refine ⟨(((kf.trans ((KeepsOthers.setCell _ _ _).from _)).trans ((KeepsOthers.setCell _ _ _).from _)).trans ((KeepsOthers.setCell _ _ _).from _)).trans ((KeepsOthers.setCell _ _ _).from _),⟨rfl,aTd x (by rw [HKD.out,HV.out];exact HRR.out)⟩,⟨by refine aU ?_ Ot _;refine aU ?_ Oq _;refine aY (cs:=#[.int .i64 0,.slice none 0 0]) ?_ 1 _ rfl;refine aY (cs:=#[.int .i64 0,.slice none 0 0]) ?_ 0 _ rfl;exact H6.out,by refine aU ?_ Ou _;refine aY (cs:=#[.int .i64 0]) ?_ 0 _ rfl;refine aU ?_ Ov _;refine aU ?_ Ov _;exact H7_.out,by refine aY (cs:=#[.bool false]) ?_ 0 _ rfl;refine aU ?_ YB _;refine aU ?_ Ox _;refine aU ?_ Ox _;exact H8.out⟩,iO (iO (iO (iO HA5.out.2.2.2 (by omega)) (by omega)) (by omega)) (by omega)⟩
end Go.Proofs.Ytipjpdiianopcaa.Cat
