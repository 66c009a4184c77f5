/- Words and contracts for the laws of encode. -/
import Derived.Test.YtipjpdiianopcaaqPl
import Derived.Test.YtipjpdiianopcaaqAx12
set_option linter.unusedVariables false
set_option linter.unusedSimpArgs false
namespace Go.Proofs.Ytipjpdiianopcaa.Chw
open Go.RowKit Go.Proofs.YtipjpdiianopcaaW.fO Go.Proofs.Ytipjpdiianopcaa.Ch
variable {P:Program} {ops:Array Oper} {Q:Exit→Act→World→Prop} {S:World→Prop} {n:Nat}
theorem aNQ {o:Oper} {a:Act} {w:World} {K:Act→World→Prop} (h:o.wp P a w K Q):o.wpIn Fence.wide n P a w K Q:=by
 refine ⟨fun _ _=>trivial,?_⟩
 rw [show Fence.wide.round=none from rfl,Oper.semAt_none]
 unfold Oper.wp at h
 generalize (execOp a.eval o).run P w=r at h ⊢
 unfold Oper.upon at h
 unfold Oper.uponIn
 split at h
 ·exact h
 ·exact h
 ·exact h
 ·exact ⟨(fun h=>by simp [Fence.wide] at h),callsIn_wide.2 h⟩
 ·refine ⟨(fun h=>by simp [Fence.wide] at h),fun c cs _=>?_⟩
  obtain ⟨v,w',hv,hs⟩:=h c cs
  exact ⟨v,w',hv,stepsIn_wide.2 hs⟩
 ·exact h
 ·exact h.elim
theorem aKt {i:Nat} {a:Act} {w:World} {K:Act→World→Prop} (hq:¬ LetsOut Q) (h:wpOp P ops Q i K a w):wpOpIn Fence.wide n P ops Q i K a w:=by
 unfold wpOp at h
 unfold wpOpIn
 cases ho:ops[i]? with
 | none=>rw [ho] at h;exact h
 | some o =>
  rw [ho] at h
  dsimp only at h ⊢
  split
  ·rename_i hw
   rw [if_pos hw] at h
   rcases h with h|h
   ·exact aNQ h
   ·exact absurd h.2 hq
  ·rename_i hw
   rw [if_neg hw] at h;exact ⟨fun _ _=>trivial,h⟩
theorem aCS {md:Region.Mode} (hq:¬ LetsOut Q):∀ (fuel:Nat) (listed:Array Bool) (a:Act) (w:World),wpAny P md ops Q fuel listed a w→wpAnyIn Fence.wide n P md ops Q fuel listed a w
 | 0,_,_,_,h=>h
 | fuel+1,_,_,_,h=>⟨h.1,fun i hi=>aKt hq (wpOp_mono (fun a' w' h'=>aCS hq fuel _ a' w' h') (h.2 i hi))⟩
theorem aEe {id m:Nat} {a:Act} {w:World} {ds:List Nat} (hq:¬ LetsOut Q) (lb:Array Bool) (hm:P.follows .mixedOrders=true) (hn:ops.size=m) (hl:Array.replicate m false=lb) (hS:S w.drew)
  (h:S w.drew→jR P .any ops Q S ds m lb a w.drew):(Code.region id ops true).wpIn Fence.wide n P Q a w:=by
 subst hn
 subst hl
 exact wpIn_region_any hm (aCS hq _ _ _ _ (GY _ _ _ _ (h hS)))
def aKu (K:Act→World→Prop):Exit→Act→World→Prop
 | .normal,a,w=>K a w
 | _,_,_=>False
theorem EE {K:Act→World→Prop} {a:Act} {w:World} (h:K a w):aKu K .normal a w:=h
theorem EF {id m:Nat} {a:Act} {w:World} {ds:List Nat} (lb:Array Bool) (hm:P.follows .mixedOrders=true) (hn:ops.size=m) (hl:Array.replicate m false=lb) (hS:S w.drew)
  (h:S w.drew→jR P .any ops (aKu (Q .normal)) S ds m lb a w.drew):(Code.region id ops true).wpIn Fence.wide n P Q a w :=
 wpIn_mono (aEe (Q:=aKu (Q .normal)) (by rintro ⟨a,w',h⟩;exact h) lb hm hn hl hS h) (by rintro e a w h;cases e <;> first|exact h|exact h.elim)
end Go.Proofs.Ytipjpdiianopcaa.Chw
namespace Go.Proofs.Ytipjpdiianopcaa.Cat
open Go.RowKit Go.Shelf Go.Proofs.YtipjpdiianopcaaW.dF Go.Proofs.YtipjpdiianopcaaW.fO Go.Proofs.Ytipjpdiianopcaa.A Go.Proofs.Ytipjpdiianopcaa.Pure Go.Proofs.Ytipjpdiianopcaa.Cl Go.Proofs.Ytipjpdiianopcaa.Cv
set_option linter.unusedVariables false
set_option linter.unusedSimpArgs false
def wR (x:Int) (f:nJ):Bool:=f.f1==wrap64 x
set_option maxHeartbeats 2000000 in
set_option maxRecDepth 100000 in
theorem code.calls (B4 B5:Nat) (A:Option Addr) (c:Nat) (code:List Int) (p:Int) (g:nJ) (Ag:Option Addr) (cg:Nat) (w:World) (h4:w.heap[B4]?=some (.cells #[.slice A code.length c] 25 (0,0))) (h5:w.heap[B5]?=some (.cells #[.int .i64 p] 3 (0,0)))
  (hr:Kd.C (Kd.int .u8) w A code.length code) (h0:0≤p) (h1:p<(code.length:Int)) :
  Calls Try.prog 89 #[.agg #[.string g.f0,.int .i64 g.f1,.slice Ag g.f2.length cg],.pointer (some ⟨B4,0,none⟩),.pointer (some ⟨B5,0,none⟩)] w fun e w'=>e=.returned (.bool (wR (rd code p) g))∧Below w.heap.size w w':=by
 have Jf:=Try.underlying54
 obtain ⟨ad,e0,hx⟩:=Kd.jJ hr p h0 h1
 cases e0
 have hb1:Below w.heap.size w (w.alloc (.cells #[.string g.f0,.int .i64 g.f1,.slice Ag g.f2.length cg] 54)):=(Below.refl _ w).alloc (Nat.le_refl _) _
 have hG:=pY w (.cells #[.string g.f0,.int .i64 g.f1,.slice Ag g.f2.length cg] 54)
 have g1:(w.alloc (.cells #[.string g.f0,.int .i64 g.f1,.slice Ag g.f2.length cg] 54)).cell? ⟨w.heap.size,1,none⟩=some (.int .i64 g.f1):=(aC hG 1).trans rfl
 have k4:=(aC (aK h4 hb1) 0).trans (show (#[.slice (some ad) code.length c]:Array Value)[0]?=some (.slice (some ad) code.length c) from rfl)
 have k5:=(aC (aK h5 hb1) 0).trans (show (#[.int .i64 p]:Array Value)[0]?=some (.int .i64 p) from rfl)
 have kx:=(hb1.cell (dM w _ hx)).trans hx
 have pk0:(0≤p)=True:=eq_true h0
 have pk1:(p<(code.length:Int))=True:=eq_true h1
 have HB:=aA.mk hb1
 clear hb1 hG hr
 unfold wR
 go_enter Try.func89,Try.ntmps89
 go_wp2
 refine qZ (n:=9) (S:=fun w'=>w'.cell? ⟨w.heap.size,1,none⟩=some (.int .i64 g.f1)∧w'.cell? ⟨B4,0,none⟩=some (.slice (some ad) code.length c)∧w'.cell? ⟨B5,0,none⟩=some (.int .i64 p)∧w'.cell? (ad.add p.toNat)=some (.int .u8 (rd code p))) (ds:=[]) #[false,false,false,false,false,false,false,false,false] aQ rfl rfl ⟨g1,k4,k5,kx⟩ (fun hHeld=>?_)
 clear g1 k4 k5 kx hx
 refine bQ (i:=0) (N:=some 5) (v:=?_) (a':=?_) #[true,false,false,false,false,false,false,false,false] rfl rfl aQ (fun _ _ _ h=>h) (bG ?_) ?_ ?_
 rotate_left
 ·intro w'
  go_simp
  with_reducible rfl
 rotate_left
 ·simp only [Act.put,aX]
  rfl
 refine iQ (i:=1) (N:=some 6) (v:=?_) (a':=?_) #[true,true,false,false,false,false,false,false,false] rfl rfl aQ (fun _ _ _ h=>h) (bG ?_) hHeld ?_ ?_
 rotate_left
 ·rintro w' ⟨s0,s1,s2,s3⟩
  go_simp
  with_reducible rfl
 rotate_left
 ·simp only [Act.put,aX]
  rfl
 refine iQ (i:=2) (N:=some 7) (v:=?_) (a':=?_) #[true,true,true,false,false,false,false,false,false] rfl rfl aQ (fun _ _ _ h=>h) (bG ?_) hHeld ?_ ?_
 rotate_left
 ·rintro w' ⟨s0,s1,s2,s3⟩
  go_simp
  with_reducible rfl
 rotate_left
 ·simp only [Act.put,aX]
  rfl
 refine iQ (i:=3) (N:=some 8) (v:=?_) (a':=?_) #[true,true,true,true,false,false,false,false,false] rfl rfl aQ (fun _ _ _ h=>h) (bG ?_) hHeld ?_ ?_
 rotate_left
 ·rintro w' ⟨s0,s1,s2,s3⟩
  go_simp
  with_reducible rfl
 rotate_left
 ·simp only [Act.put,aX]
  rfl
 refine bQ (i:=4) (N:=some 9) (v:=?_) (a':=?_) #[true,true,true,true,true,false,false,false,false] rfl rfl aQ (fun _ _ _ h=>h) (bG ?_) ?_ ?_
 rotate_left
 ·intro w'
  go_simp
  with_reducible rfl
 rotate_left
 ·simp only [Act.put,aX]
  rfl
 refine iQ (i:=5) (N:=some 10) (v:=?_) (a':=?_) #[true,true,true,true,true,true,false,false,false] rfl rfl aQ (fun _ _ _ h=>h) (bG ?_) hHeld ?_ ?_
 rotate_left
 ·rintro w' ⟨s0,s1,s2,s3⟩
  go_simp
  with_reducible rfl
 rotate_left
 ·simp only [Act.put,aX]
  rfl
 refine bQ (i:=6) (N:=some 11) (v:=?_) (a':=?_) #[true,true,true,true,true,true,true,false,false] rfl rfl aQ (fun _ _ _ h=>h) (bG ?_) ?_ ?_
 rotate_left
 ·intro w'
  go_simp
  with_reducible rfl
 rotate_left
 ·simp only [Act.put,aX]
  rfl
 refine bQ (i:=7) (N:=some 12) (v:=?_) (a':=?_) #[true,true,true,true,true,true,true,true,false] rfl rfl aQ (fun _ _ _ h=>h) (bG ?_) ?_ ?_
 rotate_left
 ·intro w'
  go_simp
  with_reducible rfl
 rotate_left
 ·simp only [Act.put,aX]
  rfl
 refine bQ (i:=8) (N:=some 4) (v:=?_) (a':=?_) #[true,true,true,true,true,true,true,true,true] rfl rfl aQ (fun _ _ _ h=>h) (bG ?_) ?_ ?_
 rotate_left
 ·intro w'
  go_simp
  with_reducible rfl
 rotate_left
 ·simp only [Act.put,aX]
  rfl
 refine sG aQ ?_
 go_wp2
 go_ret
 exact ⟨by first|rfl|(simp;done),fZ HB.out⟩
theorem GH (tmps:Array Value) (w:World) (b6 b7 b8:Nat) (r1:Int) (v:Value) (r3:Int) (r4:Bool) (h6:tmps.getD 6 undef=.pointer (some ⟨b6,0,none⟩)) (h7:tmps.getD 7 undef=.pointer (some ⟨b7,0,none⟩)) (h8:tmps.getD 8 undef=.pointer (some ⟨b8,0,none⟩))
  (g6:w.heap[b6]?=some (.cells #[.int .i64 r1,v] 65 (0,0))) (g7:w.heap[b7]?=some (.cells #[.int .i64 r3] 3 (0,0))) (g8:w.heap[b8]?=some (.cells #[.bool r4] 4 (0,0))) :
  (results Try.f79 tmps).run Try.prog w=.ok (.tuple #[.agg #[.int .i64 r1,v],.int .i64 r3,.bool r4]) w:=by
 have hr:Try.f79.results=#[.cell 6 65,.cell 7 3,.cell 8 4]:=rfl
 have Kz:=Try.underlying65
 have hu3:=Try.underlying3
 have hu4:=Try.underlying4
 have c0:=aC g7 0
 have c1:=aC g8 0
 have c0':w.cell? ⟨b7,0,none⟩=some (.int .i64 r3):=c0
 have c1':w.cell? ⟨b8,0,none⟩=some (.bool r4):=c1
 clear c0 c1
 unfold results
 rw [hr,show (#[.cell 6 65,.cell 7 3,.cell 8 4]:Array ResultVar)=[ResultVar.cell 6 65,.cell 7 3,.cell 8 4].toArray from rfl,List.mapM_toArray]
 simp only [Sem.run_bind,Sem.run_map,List.mapM_cons,List.mapM_nil,h6,h7,h8,asAddr]
 simp [run_loadVar_row w b6 65 65 _ _ _ g6 Kz rfl aQ]
 simp [go_sem,loadVar,c0',c1',hu3,hu4]
def MK (part:List Int) (o:Int):Nat→Nat→Int→Int
 | 0,_,acc=>acc
 | d+1,i,acc=>MK part o d (i+1) (Go.bits .or .i64 acc (shl .i64 (wrap64 (rd part (o+i))) (8*i)))
def Yz (k b n:Int):Int:=if k=4 then n else if n≥shl .i64 1 (8*b-1) then wrap64 (n-wrap64 (2*shl .i64 1 (8*b-1))) else n
def Oc (part:List Int) (x:Fl) (k:Int):Int :=
 if x.bytes=0 then (if x.high=true then wrap64 (rd part x.off / 16) else wrap64 (Go.bits .and .u8 (rd part x.off) 15))
 else Yz k x.bytes (MK part x.off x.bytes.toNat 0 0)
theorem aS_ (part:List Int) (k o:Int) (x0:Int) (x3:Bool) (n:Nat) (hn0:1≤n) (hn:n≤4) (ho:0≤o) (ho2:o≤1000000) (hp:o+n≤(part.length:Int)):∀ (d m i:Nat) (acc:Int),i+d=n→d<m →
  qI.l0 m part k acc (n:Int) (i:Int) x0 o (n:Int) x3=some (Yz k n (MK part o d i acc)):=by
 intro d
 induction d with
 | zero =>
  intro m i acc hi hm
  obtain ⟨m,rfl⟩:∃ m',m=m'+1:=⟨m-1,by omega⟩
  have h8:wrap64 (wrap64 (8*(n:Int))-1)=8*(n:Int)-1:=by unfold wrap64;omega
  rw [qI.l0,if_neg (show ¬ (i:Int)<(n:Int) by omega),h8,if_pos (show (0:Int)≤8*(n:Int)-1 by omega),MK,Yz]
  by_cases h4:k=4
  ·rw [if_pos h4,if_pos h4]
  ·rw [if_neg h4,if_neg h4]
   by_cases h5:acc≥shl .i64 1 (8*(n:Int)-1)
   ·rw [if_pos h5,if_pos h5]
   ·rw [if_neg h5,if_neg h5]
 | succ d ih =>
  intro m i acc hi hm
  obtain ⟨m,rfl⟩:∃ m',m=m'+1:=⟨m-1,by omega⟩
  have hw:wrap64 ((i:Int)+1)=((i+1:Nat):Int):=by unfold wrap64;omega
  have h8:wrap64 (8*(i:Int))=8*(i:Int):=by unfold wrap64;omega
  have ho1:wrap64 (o+(i:Int))=o+(i:Int):=by unfold wrap64;omega
  rw [qI.l0,if_pos (show (i:Int)<(n:Int) by omega),ho1,if_pos (show (0:Int)≤o+(i:Int) by omega),if_pos (show o+(i:Int)<(part.length:Int) by omega),h8,if_pos (show (0:Int)≤8*(i:Int) by omega),hw,MK]
  exact ih m (i+1) _ (by omega) (by omega)
theorem aY2 (part:List Int) (x:Fl) (k:Int) (h0:0≤x.off) (h1:x.off<(part.length:Int)) (h2:x.off+x.bytes≤(part.length:Int)) (h3:x.bytes≤4) (h30:0≤x.bytes) (h4:x.off≤1000000):qI.f 10 part x.arg x.off x.bytes x.high k=some (Oc part x k):=by
 unfold qI.f Oc
 by_cases hb:x.bytes=0
 ·rw [if_pos hb,if_pos hb]
  by_cases hh:x.high=true
  ·rw [if_pos hh,if_pos h0,if_pos h1,if_pos hh]
  ·rw [if_neg hh,if_pos h0,if_pos h1,if_neg hh]
 ·rw [if_neg hb,if_neg hb]
  obtain ⟨n,hn⟩:∃ n:Nat,x.bytes=(n:Int):=⟨x.bytes.toNat,by omega⟩
  rw [hn,Int.toNat_natCast]
  exact aS_ part k x.off x.arg x.high n (by omega) (by omega) h0 h4 (by omega) n 10 0 0 (by omega) (by omega)
def YA (k:Int):Int × Int:=if k=1 then (0,7) else if k=2 then (0,3) else if k=4 then (0,4294967295) else if k=6 then (-32768,32767) else (-128,127)
def Vt (k v:Int):Bool:=decide ((YA k).1≤v)&&decide (v≤(YA k).2)
theorem aGK (k:Int):CQ.f k=some (YA k):=by
 unfold CQ.f YA
 by_cases h1:k=1
 ·rw [if_pos h1,if_pos h1]
 ·rw [if_neg h1,if_neg h1]
  by_cases h2:k=2
  ·rw [if_pos h2,if_pos h2]
  ·rw [if_neg h2,if_neg h2]
   by_cases h4:k=4
   ·rw [if_pos h4,if_pos h4]
   ·rw [if_neg h4,if_neg h4]
    by_cases h6:k=6
    ·rw [if_pos h6,if_pos h6]
    ·rw [if_neg h6,if_neg h6]
theorem aKv (k:Int):gU.f k=some (YA k):=by
 have h:=aGK k
 unfold CQ.f at h
 unfold gU.f
 exact h
theorem aP_ (k v:Int):mG.f k v=some (Vt k v):=by
 unfold mG.f Vt
 rw [aGK,Option.bind_some]
 by_cases h:v≥(YA k).1
 ·rw [if_pos h,fB (show (YA k).1≤v from h),Bool.true_and]
 ·rw [if_neg h,kT (show ¬ (YA k).1≤v from h),Bool.false_and]
end Go.Proofs.Ytipjpdiianopcaa.Cat
