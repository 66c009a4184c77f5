/- Words and contracts for the laws of encode. -/
import Derived.Test.YtipjpdiianopcaaqCat0
import Derived.Test.YtipjpdiianopcaaqCby
set_option linter.unusedVariables false
set_option linter.unusedSimpArgs false
namespace Go.Proofs.Ytipjpdiianopcaa.Cat
open Go.RowKit Go.Shelf Go.Proofs.YtipjpdiianopcaaW.dF Go.Proofs.YtipjpdiianopcaaW.fO Go.Proofs.Ytipjpdiianopcaa.A Go.Proofs.Ytipjpdiianopcaa.Pure Go.Proofs.Ytipjpdiianopcaa.Cl Go.Proofs.Ytipjpdiianopcaa.Cv Go.Proofs.Ytipjpdiianopcaa.Ch Go.Proofs.Ytipjpdiianopcaa.Chw Go.Proofs.Ytipjpdiianopcaa.Cby
attribute [local go_sem] Oper.semAt_some
set_option linter.unusedVariables false
set_option linter.unusedSimpArgs false
def Oe (part l:List Int):Bool:=(lay l).all fun x=>Vt (rd l x.arg) (Oc part x (rd l x.arg))
def Dz (part l:List Int) (pre:List Fl) (a:List Int):List Int:=pre.foldl (fun a x=>a.set x.arg.toNat (Oc part x (rd l x.arg))) a
theorem aAf (part l:List Int):∀ (pre:List Fl) (a:List Int),(Dz part l pre a).length=a.length
 | [],_=>rfl
 | x :: pre,a=>(aAf part l pre _).trans (by rw [List.length_set])
theorem aEf (part l a:List Int) (pre:List Fl) (x:Fl):Dz part l (pre ++ [x]) a=(Dz part l pre a).set x.arg.toNat (Oc part x (rd l x.arg)):=by
 unfold Dz
 rw [List.foldl_append]
 rfl
def Og (code:List Int) (p:Int) (l:List Int):List Int:=(code.drop p.toNat).take (oH l).toNat
def aCT (part l:List Int):Bool:=decide (regs l%2=1)&&!(rd part (1+(regs l:Int) / 2) / 16==0)
def nothing:Int × List Int × Int × Bool:=(0,[],0,false)
def atF (t:List nJ) (code:List Int) (p:Int):Int × List Int × Int × Bool :=
 if Dn (wR (rd code p)) t<0 then nothing
 else if (code.length:Int)<p+oH (aI t (Dn (wR (rd code p)) t)).f2 then nothing
 else if Oe (Og code p (aI t (Dn (wR (rd code p)) t)).f2) (aI t (Dn (wR (rd code p)) t)).f2=false then nothing
 else if aCT (Og code p (aI t (Dn (wR (rd code p)) t)).f2) (aI t (Dn (wR (rd code p)) t)).f2=true then nothing
 else (Dn (wR (rd code p)) t,Dz (Og code p (aI t (Dn (wR (rd code p)) t)).f2) (aI t (Dn (wR (rd code p)) t)).f2 (lay (aI t (Dn (wR (rd code p)) t)).f2) (List.replicate (aI t (Dn (wR (rd code p)) t)).f2.length 0),oH (aI t (Dn (wR (rd code p)) t)).f2,true)
def aBg (w:World) (r:Int × List Int × Int × Bool) (e:Ending) (W':World):Prop :=
 ∃ v,e=.returned (.tuple #[.agg #[.int .i64 r.1,v],.int .i64 r.2.2.1,.bool r.2.2.2])∧Kd.R (Kd.int .i64) 3 W' w.heap.size (fun _=>True) v r.2.1∧Below w.heap.size w W'
theorem aBh (b4 b5:Nat) (A1:Option Addr) (c1:Nat) (code:List Int) (p:Int) (t:List nJ) (w:World) (h4:w.heap[b4]?=some (.cells #[.slice A1 code.length c1] 25 (0,0))) (h5:w.heap[b5]?=some (.cells #[.int .i64 p] 3 (0,0)))
  (hr:Kd.C (Kd.int .u8) w A1 code.length code) (h0:0≤p) (h1:p<(code.length:Int)):aGL 89 #[.pointer (some ⟨b4,0,none⟩),.pointer (some ⟨b5,0,none⟩)] (wR (rd code p)) t w:=by
 intro V x Ag cg hV hx hg
 exact Cat.code.calls b4 b5 A1 c1 code p x Ag cg V (aK h4 hV) (aK h5 hV) (Kd.dP hr hV) h0 h1
set_option maxHeartbeats 8000000 in
set_option maxRecDepth 100000 in
theorem at_neg (A0:Option Addr) (c0:Nat) (t:List nJ) (A1:Option Addr) (c1:Nat) (code:List Int) (p:Int) (w:World) (hr0:Kd.C Nv w A0 t.length t) (hc0:t.length≤c0) (hr1:Kd.C (Kd.int .u8) w A1 code.length code) (hc1:code.length≤c1)
  (hp0:0≤p) (hp1:p<(code.length:Int)) (hcl:code.length≤1000000) (hall:∀ f ∈ t,f.f2.length≤4∧∀ x ∈ f.f2,1≤x∧x≤6)
  (j:Int) (hj:Dn (wR (rd code p)) t=j) (hneg:j<0) :
  CallsIn Fence.wide 5 Try.prog 79 #[.slice A0 t.length c0,.slice A1 code.length c1,.int .i64 p] w (aBg w (nothing)):=by
 have Jf:=Try.underlying54
 have Kz:=Try.underlying65
 have aBO:=Try.underlying124
 have hF:∀ f,Fence.wide.fn f:=fun _=>trivial
 have hmf:∀ (fn:Fn) (first cap:Array Value) (w:World),(Instr.makeFunc fn first cap).run Try.prog w=.ok (.func fn first cap) w:=fun _ _ _ _=>rfl
 have eg:∀ args w,(callFunc 89 args).run Try.prog w=.ok (.enter 89 args) w:=enters_of Try.func89 aQ rfl
 have HR1:=aA.mk hr1
 have Gj:=aA.mk hc1
 have HR0:=aA.mk hr0
 have Am:=aA.mk hc0
 have HJ:=aA.mk hj
 clear hr1 hc1 hr0 hc0 hj
 refine callsIn_of_wp_marks Try.func79 rfl trivial ?_ rfl
 simp only [Try.ntmps79,List.size_toArray,List.length_cons,List.length_nil,Nat.reduceAdd,Nat.reduceSub,Array.replicate_succ,Array.replicate_zero,List.push_toArray,List.append_toArray,List.nil_append,List.cons_append]
 have q4:=fU (fU (fU (fU (pY w (.cells #[.slice A1 code.length c1] 25)) (.cells #[.int .i64 p] 3)) (.cells #[.int .i64 0,.slice none 0 0] 65)) (.cells #[.int .i64 0] 3)) (.cells #[.bool false] 4)
 have q5:=fU (fU (fU (pY (w.alloc (.cells #[.slice A1 code.length c1] 25)) (.cells #[.int .i64 p] 3)) (.cells #[.int .i64 0,.slice none 0 0] 65)) (.cells #[.int .i64 0] 3)) (.cells #[.bool false] 4)
 have q6:=fU (fU (pY ((w.alloc (.cells #[.slice A1 code.length c1] 25)).alloc (.cells #[.int .i64 p] 3)) (.cells #[.int .i64 0,.slice none 0 0] 65)) (.cells #[.int .i64 0] 3)) (.cells #[.bool false] 4)
 have q7:=fU (pY (((w.alloc (.cells #[.slice A1 code.length c1] 25)).alloc (.cells #[.int .i64 p] 3)).alloc (.cells #[.int .i64 0,.slice none 0 0] 65)) (.cells #[.int .i64 0] 3)) (.cells #[.bool false] 4)
 have q8:=pY ((((w.alloc (.cells #[.slice A1 code.length c1] 25)).alloc (.cells #[.int .i64 p] 3)).alloc (.cells #[.int .i64 0,.slice none 0 0] 65)).alloc (.cells #[.int .i64 0] 3)) (.cells #[.bool false] 4)
 simp only [World.size_alloc] at q5 q6 q7 q8
 have hB5:Below w.heap.size w (((((w.alloc (.cells #[.slice A1 code.length c1] 25)).alloc (.cells #[.int .i64 p] 3)).alloc (.cells #[.int .i64 0,.slice none 0 0] 65)).alloc (.cells #[.int .i64 0] 3)).alloc (.cells #[.bool false] 4)):=iR (iR (iR (iR (iR (Below.refl _ w) (.cells #[.slice A1 code.length c1] 25)) (.cells #[.int .i64 p] 3)) (.cells #[.int .i64 0,.slice none 0 0] 65)) (.cells #[.int .i64 0] 3)) (.cells #[.bool false] 4)
 have hcc:=IndexFunc.calls 89 #[.pointer (some ⟨w.heap.size,0,none⟩),.pointer (some ⟨w.heap.size+1,0,none⟩)] (wR (rd code p)) eg A0 c0 t (((((w.alloc (.cells #[.slice A1 code.length c1] 25)).alloc (.cells #[.int .i64 p] 3)).alloc (.cells #[.int .i64 0,.slice none 0 0] 65)).alloc (.cells #[.int .i64 0] 3)).alloc (.cells #[.bool false] 4)) (Kd.dP HR0.out hB5) (aBh _ _ A1 c1 code p t _ q4 q5 (Kd.dP HR1.out hB5) hp0 hp1)
 rw [HJ.out] at hcc
 have HCC:=aA.mk hcc
 have HB5:=aA.mk hB5
 have Q4:=aA.mk q4
 have Q5:=aA.mk q5
 have Q6:=aA.mk q6
 have Q7:=aA.mk q7
 have Q8:=aA.mk q8
 clear hcc hB5 q4 q5 q6 q7 q8
 gi_wp2_with (gi_at_call 73;refine (callsIn_wide.2 HCC.out).mono ?_;rintro e w2 ⟨rfl,hb⟩;have HB:=aA.mk (aT HB5.out hb);have P4:=aA.mk (aK Q4.out hb);have P5:=aA.mk (aK Q5.out hb);have P6:=aA.mk (aK Q6.out hb);have P7:=aA.mk (aK Q7.out hb);have P8:=aA.mk (aK Q8.out hb);clear hb)
 clear HCC HB5 Q4 Q5 Q6 Q7 Q8
 have HN:aA (w.heap.size<w.heap.size+1∧w.heap.size+1<w.heap.size+1+1∧w.heap.size+1+1<w.heap.size+1+1+1∧w.heap.size+1+1+1<w.heap.size+1+1+1+1):=⟨by omega⟩
 generalize w.heap.size+1+1+1+1=b8 at HN P8 ⊢
 generalize w.heap.size+1+1+1=b7 at HN P7 ⊢
 generalize w.heap.size+1+1=b6 at HN P6 ⊢
 generalize w.heap.size+1=b5 at HN P5 ⊢
 obtain ⟨b4,hb4⟩:∃ b4,b4=w.heap.size:=⟨_,rfl⟩
 rw [← hb4] at HN P4 ⊢
 have HB4:=aA.mk hb4
 clear hb4
 have hd:decide (j<0)=true:=fB hneg
 refine EF (m:=14) (S:=fun _=>True) (ds:=[]) #[false,false,false,false,false,false,false,false,false,false,false,false,false,false] aQ rfl rfl trivial (fun hHeld=>?_)
 have Oh:=aA.mk (dY P4.out)
 have Oi:=aA.mk (dY P5.out)
 have Oj:=aA.mk (dY P6.out)
 have Ol:=aA.mk (dY P7.out)
 have Om:=aA.mk (dY P8.out)
 have Oo:=aA.mk (fZ HB.out)
 clear P4 P5 P6 P7 P8 HB
 generalize w2.drew=w3 at Oh Oi Oj Ol Om Oo hHeld ⊢
 have P4:=Oh
 have P5:=Oi
 have P6:=Oj
 have P7:=Ol
 have P8:=Om
 have HB:=Oo
 clear Oh Oi Oj Ol Om Oo w2
 refine bQ (i:=0) (N:=some 18) (v:=?_) (a':=?_) #[true,false,false,false,false,false,false,false,false,false,false,false,false,false] rfl rfl aQ (fun _ _ _ h=>h) (bG ?_) ?_ ?_
 rotate_left
 ·intro w'
  go_simp
  with_reducible rfl
 rotate_left
 ·simp only [Act.put,aX]
  rfl
 refine bQ (i:=1) (N:=some 19) (v:=?_) (a':=?_) #[true,true,false,false,false,false,false,false,false,false,false,false,false,false] rfl rfl aQ (fun _ _ _ h=>h) (bG ?_) ?_ ?_
 rotate_left
 ·intro w'
  go_simp
  with_reducible rfl
 rotate_left
 ·simp only [Act.put,aX]
  rfl
 refine bQ (i:=2) (N:=some 20) (v:=?_) (a':=?_) #[true,true,true,false,false,false,false,false,false,false,false,false,false,false] rfl rfl aQ (fun _ _ _ h=>h) (bG ?_) ?_ ?_
 rotate_left
 ·intro w'
  go_simp
  with_reducible rfl
 rotate_left
 ·simp only [Act.put,aX]
  rfl
 refine iQ (i:=3) (N:=some 21) (v:=undef) (a':=?_) #[true,true,true,true,false,false,false,false,false,false,false,false,false,false] rfl rfl aQ (fun _ _ _ h=>h) (Or.inr ⟨by rfl,rfl⟩) hHeld ?_ ?_
 rotate_left
 ·simp only [Act.put,aX]
  rfl
 refine bQ (i:=4) (N:=some 22) (v:=undef) (a':=?_) #[true,true,true,true,true,false,false,false,false,false,false,false,false,false] rfl rfl aQ (fun _ _ _ h=>h) (Or.inr ⟨by rfl,rfl⟩) ?_ ?_
 rotate_left
 ·simp only [Act.put,aX]
  rfl
 refine bQ (i:=5) (N:=some 23) (v:=undef) (a':=?_) #[true,true,true,true,true,true,false,false,false,false,false,false,false,false] rfl rfl aQ (fun _ _ _ h=>h) (Or.inr ⟨by rfl,rfl⟩) ?_ ?_
 rotate_left
 ·simp only [Act.put,aX]
  rfl
 refine bQ (i:=6) (N:=some 24) (v:=undef) (a':=?_) #[true,true,true,true,true,true,true,false,false,false,false,false,false,false] rfl rfl aQ (fun _ _ _ h=>h) (Or.inr ⟨by rfl,rfl⟩) ?_ ?_
 rotate_left
 ·simp only [Act.put,aX]
  rfl
 refine iQ (i:=7) (N:=some 25) (v:=undef) (a':=?_) #[true,true,true,true,true,true,true,true,false,false,false,false,false,false] rfl rfl aQ (fun _ _ _ h=>h) (Or.inr ⟨by rfl,rfl⟩) hHeld ?_ ?_
 rotate_left
 ·simp only [Act.put,aX]
  rfl
 refine iQ (i:=10) (N:=some 28) (v:=undef) (a':=?_) #[true,true,true,true,true,true,true,true,false,false,true,false,false,false] rfl rfl aQ (fun _ _ _ h=>h) (Or.inr ⟨by rfl,rfl⟩) hHeld ?_ ?_
 rotate_left
 ·simp only [Act.put,aX]
  rfl
 refine bQ (i:=11) (N:=some 29) (v:=undef) (a':=?_) #[true,true,true,true,true,true,true,true,false,false,true,true,false,false] rfl rfl aQ (fun _ _ _ h=>h) (Or.inr ⟨by rfl,rfl⟩) ?_ ?_
 rotate_left
 ·simp only [Act.put,aX]
  rfl
 refine wL (i:=8) (N:=some 26) #[true,true,true,true,true,true,true,true,true,false,true,true,false,false] rfl rfl aQ (by decide) (fun K hK=>?_)
 refine bHg (by rfl) ?_
 refine hK.out _ _ trivial (fun hHeld=>?_)
 clear hK K
 refine sJ (a':=?_) ?_ ?_
 rotate_left
 ·show Act.put _ (some 26) _=_
  simp only [Act.put,aX]
  rfl
 refine bQ (i:=9) (N:=some 27) (v:=undef) (a':=?_) #[true,true,true,true,true,true,true,true,true,true,true,true,false,false] rfl rfl aQ (fun _ _ _ h=>h) (Or.inr ⟨by rfl,rfl⟩) ?_ ?_
 rotate_left
 ·simp only [Act.put,aX]
  rfl
 refine bQ (i:=12) (N:=some 30) (v:=undef) (a':=?_) #[true,true,true,true,true,true,true,true,true,true,true,true,true,false] rfl rfl aQ (fun _ _ _ h=>h) (Or.inr ⟨by rfl,rfl⟩) ?_ ?_
 rotate_left
 ·simp only [Act.put,aX]
  rfl
 refine bQ (i:=13) (N:=some 31) (v:=?_) (a':=?_) #[true,true,true,true,true,true,true,true,true,true,true,true,true,true] rfl rfl aQ (fun _ _ _ h=>h) (bG ?_) ?_ ?_
 rotate_left
 ·intro w'
  go_simp
  with_reducible rfl
 rotate_left
 ·simp only [Act.put,aX]
  rfl
 refine sG aQ (EE ?_)
 have aKw:w3.cell? ⟨b6,0,none⟩=some (.int .i64 0):=(aC (P6.out) 0).trans rfl
 have aKx:w3.cell? ⟨b6,1,none⟩=some (.slice none 0 0):=(aC (P6.out) 1).trans rfl
 have aKy:w3.cell? ⟨b7,0,none⟩=some (.int .i64 0):=(aC (P7.out) 0).trans rfl
 have aKz:w3.cell? ⟨b8,0,none⟩=some (.bool false):=(aC (P8.out) 0).trans rfl
 have aKA:=aG (P6.out) 0
 have aKB:=aG (P6.out) 1
 have aKC:=aG (P7.out) 0
 have aKD:=aG (P8.out) 0
 have Oq:b6≠b7:=by have:=HN.out;omega
 have Ot:b6≠b8:=by have:=HN.out;omega
 have Ou:b7≠b8:=by have:=HN.out;omega
 have Ov:=Oq.symm
 have Ox:=Ot.symm
 have YB:=Ou.symm
 gi_wp2_with (fail)
 refine ⟨_,GH _ _ b6 b7 b8 0 (.slice none 0 0) 0 false rfl rfl rfl (by refine aU ?_ Ot _;refine aU ?_ Oq _;refine aY (cs:=#[.int .i64 0,.slice none 0 0]) ?_ 1 _ rfl;refine aY (cs:=#[.int .i64 0,.slice none 0 0]) ?_ 0 _ rfl;exact P6.out) (by refine aU ?_ Ou _;refine aY (cs:=#[.int .i64 0]) ?_ 0 _ rfl;refine aU ?_ Ov _;refine aU ?_ Ov _;exact P7.out) (by refine aY (cs:=#[.bool false]) ?_ 0 _ rfl;refine aU ?_ YB _;refine aU ?_ Ox _;refine aU ?_ Ox _;exact P8.out),_,rfl,Kd.BV _ _ _ _ _,?_⟩
 have h46:=HN.out
 have ZG:=HB4.out
 exact iO (iO (iO (iO (HB.out) (by omega)) (by omega)) (by omega)) (by omega)
set_option maxHeartbeats 8000000 in
set_option maxRecDepth 100000 in
theorem aNR (A0:Option Addr) (c0:Nat) (t:List nJ) (A1:Option Addr) (c1:Nat) (code:List Int) (p:Int) (w:World) (hr0:Kd.C Nv w A0 t.length t) (hc0:t.length≤c0) (hr1:Kd.C (Kd.int .u8) w A1 code.length code) (hc1:code.length≤c1)
  (hp0:0≤p) (hp1:p<(code.length:Int)) (hcl:code.length≤1000000) (hall:∀ f ∈ t,f.f2.length≤4∧∀ x ∈ f.f2,1≤x∧x≤6)
  (j:Int) (hj:Dn (wR (rd code p)) t=j) (hj0:0≤j) (hj1:j<(t.length:Int)) (m:Nat) (hm:oH (aI t j).f2=(m:Int)) (hlong:(code.length:Int)<p+m) :
  CallsIn Fence.wide 5 Try.prog 79 #[.slice A0 t.length c0,.slice A1 code.length c1,.int .i64 p] w (aBg w (nothing)):=by
 have Jf:=Try.underlying54
 have Kz:=Try.underlying65
 have aBO:=Try.underlying124
 have hF:∀ f,Fence.wide.fn f:=fun _=>trivial
 have hmf:∀ (fn:Fn) (first cap:Array Value) (w:World),(Instr.makeFunc fn first cap).run Try.prog w=.ok (.func fn first cap) w:=fun _ _ _ _=>rfl
 have eg:∀ args w,(callFunc 89 args).run Try.prog w=.ok (.enter 89 args) w:=enters_of Try.func89 aQ rfl
 have HR1:=aA.mk hr1
 have Gj:=aA.mk hc1
 have HR0:=aA.mk hr0
 have Am:=aA.mk hc0
 have HJ:=aA.mk hj
 clear hr1 hc1 hr0 hc0 hj
 refine callsIn_of_wp_marks Try.func79 rfl trivial ?_ rfl
 simp only [Try.ntmps79,List.size_toArray,List.length_cons,List.length_nil,Nat.reduceAdd,Nat.reduceSub,Array.replicate_succ,Array.replicate_zero,List.push_toArray,List.append_toArray,List.nil_append,List.cons_append]
 have q4:=fU (fU (fU (fU (pY w (.cells #[.slice A1 code.length c1] 25)) (.cells #[.int .i64 p] 3)) (.cells #[.int .i64 0,.slice none 0 0] 65)) (.cells #[.int .i64 0] 3)) (.cells #[.bool false] 4)
 have q5:=fU (fU (fU (pY (w.alloc (.cells #[.slice A1 code.length c1] 25)) (.cells #[.int .i64 p] 3)) (.cells #[.int .i64 0,.slice none 0 0] 65)) (.cells #[.int .i64 0] 3)) (.cells #[.bool false] 4)
 have q6:=fU (fU (pY ((w.alloc (.cells #[.slice A1 code.length c1] 25)).alloc (.cells #[.int .i64 p] 3)) (.cells #[.int .i64 0,.slice none 0 0] 65)) (.cells #[.int .i64 0] 3)) (.cells #[.bool false] 4)
 have q7:=fU (pY (((w.alloc (.cells #[.slice A1 code.length c1] 25)).alloc (.cells #[.int .i64 p] 3)).alloc (.cells #[.int .i64 0,.slice none 0 0] 65)) (.cells #[.int .i64 0] 3)) (.cells #[.bool false] 4)
 have q8:=pY ((((w.alloc (.cells #[.slice A1 code.length c1] 25)).alloc (.cells #[.int .i64 p] 3)).alloc (.cells #[.int .i64 0,.slice none 0 0] 65)).alloc (.cells #[.int .i64 0] 3)) (.cells #[.bool false] 4)
 simp only [World.size_alloc] at q5 q6 q7 q8
 have hB5:Below w.heap.size w (((((w.alloc (.cells #[.slice A1 code.length c1] 25)).alloc (.cells #[.int .i64 p] 3)).alloc (.cells #[.int .i64 0,.slice none 0 0] 65)).alloc (.cells #[.int .i64 0] 3)).alloc (.cells #[.bool false] 4)):=iR (iR (iR (iR (iR (Below.refl _ w) (.cells #[.slice A1 code.length c1] 25)) (.cells #[.int .i64 p] 3)) (.cells #[.int .i64 0,.slice none 0 0] 65)) (.cells #[.int .i64 0] 3)) (.cells #[.bool false] 4)
 have hcc:=IndexFunc.calls 89 #[.pointer (some ⟨w.heap.size,0,none⟩),.pointer (some ⟨w.heap.size+1,0,none⟩)] (wR (rd code p)) eg A0 c0 t (((((w.alloc (.cells #[.slice A1 code.length c1] 25)).alloc (.cells #[.int .i64 p] 3)).alloc (.cells #[.int .i64 0,.slice none 0 0] 65)).alloc (.cells #[.int .i64 0] 3)).alloc (.cells #[.bool false] 4)) (Kd.dP HR0.out hB5) (aBh _ _ A1 c1 code p t _ q4 q5 (Kd.dP HR1.out hB5) hp0 hp1)
 rw [HJ.out] at hcc
 have HCC:=aA.mk hcc
 have HB5:=aA.mk hB5
 have Q4:=aA.mk q4
 have Q5:=aA.mk q5
 have Q6:=aA.mk q6
 have Q7:=aA.mk q7
 have Q8:=aA.mk q8
 clear hcc hB5 q4 q5 q6 q7 q8
 gi_wp2_with (gi_at_call 73;refine (callsIn_wide.2 HCC.out).mono ?_;rintro e w2 ⟨rfl,hb⟩;have HB:=aA.mk (aT HB5.out hb);have P4:=aA.mk (aK Q4.out hb);have P5:=aA.mk (aK Q5.out hb);have P6:=aA.mk (aK Q6.out hb);have P7:=aA.mk (aK Q7.out hb);have P8:=aA.mk (aK Q8.out hb);clear hb)
 clear HCC HB5 Q4 Q5 Q6 Q7 Q8
 have HN:aA (w.heap.size<w.heap.size+1∧w.heap.size+1<w.heap.size+1+1∧w.heap.size+1+1<w.heap.size+1+1+1∧w.heap.size+1+1+1<w.heap.size+1+1+1+1):=⟨by omega⟩
 generalize w.heap.size+1+1+1+1=b8 at HN P8 ⊢
 generalize w.heap.size+1+1+1=b7 at HN P7 ⊢
 generalize w.heap.size+1+1=b6 at HN P6 ⊢
 generalize w.heap.size+1=b5 at HN P5 ⊢
 obtain ⟨b4,hb4⟩:∃ b4,b4=w.heap.size:=⟨_,rfl⟩
 rw [← hb4] at HN P4 ⊢
 have HB4:=aA.mk hb4
 clear hb4
 obtain ⟨ad,A2,c2,e0,hx0,hx1,hx2,hl2,hi2⟩:=rJ HR0.out j hj0 hj1
 cases e0
 have hff:=hall _ (QJ t j hj0 hj1)
 have hmb:=ML _ hff.1
 rw [hm] at hmb
 have HL:=aA.mk (Td (aI t j).f0 (aI t j).f1 (aI t j).f2 (by omega) 2000 (by omega))
 rw [hm] at HL
 generalize hf:aI t j=f at *
 obtain ⟨adc,ec,hxc⟩:=Kd.jJ HR1.out p hp0 hp1
 cases ec
 clear hxc
 have HI2:=aA.mk hi2
 have HL2:=aA.mk hl2
 have HFF:=aA.mk hff
 have HM:=aA.mk hm
 have HF:=aA.mk hf
 clear hi2 hl2 hff hm hf hall
 have hy0:=(HB.out.cell (dM w _ hx0)).trans hx0
 have hy1:=(HB.out.cell (dM w _ hx1)).trans hx1
 have hy2:=(HB.out.cell (dM w _ hx2)).trans hx2
 have X0:=aA.mk hx0
 have X1:=aA.mk hx1
 have X2:=aA.mk hx2
 clear hx0 hx1 hx2
 have hd:decide (j<0)=false:=kT (by omega)
 have pk0:(0≤j)=True:=eq_true hj0
 have pk1:(j<(t.length:Int))=True:=eq_true hj1
 have hwp:wrap64 (p+(m:Int))=p+m:=by unfold wrap64;omega
 have hlb:decide ((code.length:Int)<p+(m:Int))=true:=fB hlong
 refine EF (m:=14) (S:=fun w'=>w'.cell? ⟨b5,0,none⟩=some (.int .i64 p)∧w'.cell? ⟨b4,0,none⟩=some (.slice (some adc) code.length c1)∧w'.cell? (ad.add (j.toNat*3))=some (.string f.f0)∧w'.cell? ⟨(ad.add (j.toNat*3)).block,(ad.add (j.toNat*3)).off+1,none⟩=some (.int .i64 f.f1)∧w'.cell? ⟨(ad.add (j.toNat*3)).block,(ad.add (j.toNat*3)).off+2,none⟩=some (.slice A2 f.f2.length c2)) (ds:=[]) #[false,false,false,false,false,false,false,false,false,false,false,false,false,false] aQ rfl rfl ⟨(aC (dY P5.out) 0).trans rfl,(aC (dY P4.out) 0).trans rfl,hy0,hy1,hy2⟩ (fun hHeld=>?_)
 clear hy0 hy1 hy2
 have Oh:=aA.mk (dY P4.out)
 have Oi:=aA.mk (dY P5.out)
 have Oj:=aA.mk (dY P6.out)
 have Ol:=aA.mk (dY P7.out)
 have Om:=aA.mk (dY P8.out)
 have Oo:=aA.mk (fZ HB.out)
 clear P4 P5 P6 P7 P8 HB
 generalize w2.drew=w3 at Oh Oi Oj Ol Om Oo hHeld ⊢
 have P4:=Oh
 have P5:=Oi
 have P6:=Oj
 have P7:=Ol
 have P8:=Om
 have HB:=Oo
 clear Oh Oi Oj Ol Om Oo w2
 refine bQ (i:=0) (N:=some 18) (v:=?_) (a':=?_) #[true,false,false,false,false,false,false,false,false,false,false,false,false,false] rfl rfl aQ (fun _ _ _ h=>h) (bG ?_) ?_ ?_
 rotate_left
 ·intro w'
  go_simp
  with_reducible rfl
 rotate_left
 ·simp only [Act.put,aX]
  rfl
 refine bQ (i:=1) (N:=some 19) (v:=?_) (a':=?_) #[true,true,false,false,false,false,false,false,false,false,false,false,false,false] rfl rfl aQ (fun _ _ _ h=>h) (bG ?_) ?_ ?_
 rotate_left
 ·intro w'
  go_simp
  with_reducible rfl
 rotate_left
 ·simp only [Act.put,aX]
  rfl
 refine bQ (i:=2) (N:=some 20) (v:=?_) (a':=?_) #[true,true,true,false,false,false,false,false,false,false,false,false,false,false] rfl rfl aQ (fun _ _ _ h=>h) (bG ?_) ?_ ?_
 rotate_left
 ·intro w'
  go_simp
  with_reducible rfl
 rotate_left
 ·simp only [Act.put,aX]
  rfl
 refine iQ (i:=3) (N:=some 21) (v:=?_) (a':=?_) #[true,true,true,true,false,false,false,false,false,false,false,false,false,false] rfl rfl aQ (fun _ _ _ h=>h) (bG ?_) hHeld ?_ ?_
 rotate_left
 ·rintro w' ⟨s0,s1,s2,s3,s4⟩
  go_simp
  with_reducible rfl
 rotate_left
 ·simp only [Act.put,aX]
  rfl
 refine bQ (i:=4) (N:=some 22) (v:=?_) (a':=?_) #[true,true,true,true,true,false,false,false,false,false,false,false,false,false] rfl rfl aQ (fun _ _ _ h=>h) (bG ?_) ?_ ?_
 rotate_left
 ·intro w'
  go_simp
  with_reducible rfl
 rotate_left
 ·simp only [Act.put,aX]
  rfl
 refine bQ (i:=5) (N:=some 23) (v:=?_) (a':=?_) #[true,true,true,true,true,true,false,false,false,false,false,false,false,false] rfl rfl aQ (fun _ _ _ h=>h) (bG ?_) ?_ ?_
 rotate_left
 ·intro w'
  go_simp
  with_reducible rfl
 rotate_left
 ·simp only [Act.put,aX]
  rfl
 refine bQ (i:=6) (N:=some 24) (v:=?_) (a':=?_) #[true,true,true,true,true,true,true,false,false,false,false,false,false,false] rfl rfl aQ (fun _ _ _ h=>h) (bG ?_) ?_ ?_
 rotate_left
 ·intro w'
  go_simp
  with_reducible rfl
 rotate_left
 ·simp only [Act.put,aX]
  rfl
 refine iQ (i:=7) (N:=some 25) (v:=?_) (a':=?_) #[true,true,true,true,true,true,true,true,false,false,false,false,false,false] rfl rfl aQ (fun _ _ _ h=>h) (bG ?_) hHeld ?_ ?_
 rotate_left
 ·rintro w' ⟨s0,s1,s2,s3,s4⟩
  go_simp
  with_reducible rfl
 rotate_left
 ·simp only [Act.put,aX]
  rfl
 refine iQ (i:=10) (N:=some 28) (v:=?_) (a':=?_) #[true,true,true,true,true,true,true,true,false,false,true,false,false,false] rfl rfl aQ (fun _ _ _ h=>h) (bG ?_) hHeld ?_ ?_
 rotate_left
 ·rintro w' ⟨s0,s1,s2,s3,s4⟩
  go_simp
  with_reducible rfl
 rotate_left
 ·simp only [Act.put,aX]
  rfl
 refine bQ (i:=11) (N:=some 29) (v:=?_) (a':=?_) #[true,true,true,true,true,true,true,true,false,false,true,true,false,false] rfl rfl aQ (fun _ _ _ h=>h) (bG ?_) ?_ ?_
 rotate_left
 ·intro w'
  go_simp
  with_reducible rfl
 rotate_left
 ·simp only [Act.put,aX]
  rfl
 refine wL (i:=8) (N:=some 26) #[true,true,true,true,true,true,true,true,true,false,true,true,false,false] rfl rfl aQ (by decide) (fun K hK=>?_)
 refine xR Try.func72 aQ rfl #[.agg #[.string f.f0,.int .i64 f.f1,.slice A2 f.f2.length c2]] (by rfl) rfl rfl (by (try simp only [List.map_toArray,List.map_cons,List.map_nil]);first|done|rfl) ?_
 refine (mQ.calls 2000 f.f0 f.f1 A2 c2 f.f2 _ w3 (Kd.dP HI2.out HB.out) HL2.out HL.out).mono ?_
 rintro e w5 ⟨rfl,hb⟩
 have Oo:=aA.mk (aT HB.out hb)
 have Oh:=aA.mk (aK P4.out hb)
 have Oi:=aA.mk (aK P5.out hb)
 have Oj:=aA.mk (aK P6.out hb)
 have Ol:=aA.mk (aK P7.out hb)
 have Om:=aA.mk (aK P8.out hb)
 clear HB P4 P5 P6 P7 P8
 have HB:=Oo
 have P4:=Oh
 have P5:=Oi
 have P6:=Oj
 have P7:=Ol
 have P8:=Om
 clear Oo Oh Oi Oj Ol Om hb
 refine ⟨_,rfl,?_⟩
 have hy0:=(HB.out.cell (dM w _ X0.out)).trans X0.out
 have hy1:=(HB.out.cell (dM w _ X1.out)).trans X1.out
 have hy2:=(HB.out.cell (dM w _ X2.out)).trans X2.out
 refine hK.out _ _ ⟨(aC P5.out 0).trans rfl,(aC P4.out 0).trans rfl,hy0,hy1,hy2⟩ (fun hHeld=>?_)
 clear hK K hy0 hy1 hy2
 refine sJ (a':=?_) ?_ ?_
 rotate_left
 ·show Act.put _ (some 26) _=_
  simp only [Act.put,aX]
  rfl
 refine bQ (i:=9) (N:=some 27) (v:=?_) (a':=?_) #[true,true,true,true,true,true,true,true,true,true,true,true,false,false] rfl rfl aQ (fun _ _ _ h=>h) (bG ?_) ?_ ?_
 rotate_left
 ·intro w'
  go_simp
  with_reducible rfl
 rotate_left
 ·simp only [Act.put,aX]
  rfl
 refine bQ (i:=12) (N:=some 30) (v:=?_) (a':=?_) #[true,true,true,true,true,true,true,true,true,true,true,true,true,false] rfl rfl aQ (fun _ _ _ h=>h) (bG ?_) ?_ ?_
 rotate_left
 ·intro w'
  go_simp
  with_reducible rfl
 rotate_left
 ·simp only [Act.put,aX]
  rfl
 refine bQ (i:=13) (N:=some 31) (v:=?_) (a':=?_) #[true,true,true,true,true,true,true,true,true,true,true,true,true,true] rfl rfl aQ (fun _ _ _ h=>h) (bG ?_) ?_ ?_
 rotate_left
 ·intro w'
  go_simp
  with_reducible rfl
 rotate_left
 ·simp only [Act.put,aX]
  rfl
 refine sG aQ (EE ?_)
 have aKw:w5.cell? ⟨b6,0,none⟩=some (.int .i64 0):=(aC (P6.out) 0).trans rfl
 have aKx:w5.cell? ⟨b6,1,none⟩=some (.slice none 0 0):=(aC (P6.out) 1).trans rfl
 have aKy:w5.cell? ⟨b7,0,none⟩=some (.int .i64 0):=(aC (P7.out) 0).trans rfl
 have aKz:w5.cell? ⟨b8,0,none⟩=some (.bool false):=(aC (P8.out) 0).trans rfl
 have aKA:=aG (P6.out) 0
 have aKB:=aG (P6.out) 1
 have aKC:=aG (P7.out) 0
 have aKD:=aG (P8.out) 0
 have Oq:b6≠b7:=by have:=HN.out;omega
 have Ot:b6≠b8:=by have:=HN.out;omega
 have Ou:b7≠b8:=by have:=HN.out;omega
 have Ov:=Oq.symm
 have Ox:=Ot.symm
 have YB:=Ou.symm
 gi_wp2_with (fail)
 refine ⟨_,GH _ _ b6 b7 b8 0 (.slice none 0 0) 0 false rfl rfl rfl (by refine aU ?_ Ot _;refine aU ?_ Oq _;refine aY (cs:=#[.int .i64 0,.slice none 0 0]) ?_ 1 _ rfl;refine aY (cs:=#[.int .i64 0,.slice none 0 0]) ?_ 0 _ rfl;exact P6.out) (by refine aU ?_ Ou _;refine aY (cs:=#[.int .i64 0]) ?_ 0 _ rfl;refine aU ?_ Ov _;refine aU ?_ Ov _;exact P7.out) (by refine aY (cs:=#[.bool false]) ?_ 0 _ rfl;refine aU ?_ YB _;refine aU ?_ Ox _;refine aU ?_ Ox _;exact P8.out),_,rfl,Kd.BV _ _ _ _ _,?_⟩
 have h46:=HN.out
 have ZG:=HB4.out
 exact iO (iO (iO (iO (HB.out) (by omega)) (by omega)) (by omega)) (by omega)
end Go.Proofs.Ytipjpdiianopcaa.Cat
