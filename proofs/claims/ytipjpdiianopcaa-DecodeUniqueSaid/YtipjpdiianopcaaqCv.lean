/- Words and contracts for the laws of encode. -/
import Derived.Test.YtipjpdiianopcaaqAx0
import Derived.Test.YtipjpdiianopcaaqAx6
namespace Go.Proofs.Ytipjpdiianopcaa.Cv
open Go.RowKit Go.Proofs.YtipjpdiianopcaaW.dF Go.Proofs.YtipjpdiianopcaaW.fO Go.Proofs.YtipjpdiianopcaaW.jP Go.Proofs.Ytipjpdiianopcaa.A
set_option linter.unusedVariables false
set_option linter.unusedSimpArgs false
theorem aLb (l:List Int) (i:Nat) (h:i<l.length):rd l (i:Int)=l[i]:=by
 unfold rd
 rw [Int.toNat_natCast,List.getD_eq_getElem?_getD,Nr h]
 rfl
theorem aIo (a b:List Int) (i:Nat) (ha:i<a.length) (hb:i<b.length) (h:a.take i=b.take i) (e:rd a (i:Int)=rd b (i:Int)):a.take (i+1)=b.take (i+1):=by
 rw [aLb a i ha,aLb b i hb] at e
 rw [List.take_succ_eq_append_getElem ha,List.take_succ_eq_append_getElem hb,h,e]
theorem aEr (a b:List Int) (i:Int) (h0:0≤i) (ha:i<a.length) (hb:i<b.length) (h:a.take i.toNat=b.take i.toNat) (e:rd a i=rd b i):a.take (i+1).toNat=b.take (i+1).toNat:=by
 obtain ⟨n,rfl⟩:∃ n:Nat,i=n:=⟨i.toNat,by omega⟩
 rw [Int.toNat_natCast] at h
 exact aIo a b n (by omega) (by omega) h e
theorem aEs (a b:List Int) (hl:a.length=b.length) (h:a.take a.length=b.take a.length):a=b:=by
 rw [List.take_length,hl,List.take_length] at h
 exact h
theorem aLc (a b:List Int) (i:Int) (e:rd a i≠rd b i):a≠b:=fun h=>e (by rw [h])
set_option maxHeartbeats 8000000 in
set_option maxRecDepth 100000 in
theorem slices_Equal.calls (A0:Option Addr) (c0:Nat) (l0:List Int) (A1:Option Addr) (c1:Nat) (l1:List Int) (w:World) (hr0:Kd.C (Kd.int .i64) w A0 l0.length l0) (hr1:Kd.C (Kd.int .i64) w A1 l1.length l1) :
  Calls Try.prog 70 #[.slice A0 l0.length c0,.slice A1 l1.length c1] w fun e w'=>e=.returned (.bool (decide (l0=l1)))∧gQ w w':=by
 have hmax:=hr0.2.1
 have HR0:=aA.mk hr0
 have HR1:=aA.mk hr1
 clear hr0 hr1
 obtain ⟨r,hr⟩:∃ r,decide (l0=l1)=r:=⟨_,rfl⟩
 rw [hr]
 have HR:=aA.mk hr
 clear hr
 go_enter Try.func70,Try.ntmps70
 by_cases c:l0.length=l1.length
 ·have c1:((l0.length:Int)==(l1.length:Int))=true:=by rw [beq_iff_eq];omega
  have c2:((l0.length:Int) != (l1.length:Int))=false:=by rw [bAB];omega
  have C:=aA.mk c
  have HM:=aA.mk hmax
  clear c hmax
  go_wp2
  go_loopg [13] l0.length (fun kq v13 w'=>∃ (i:Int),v13=.int .i64 i∧aA (0≤i∧i≤l0.length)∧aA (l0.length-i.toNat≤kq)∧aA (l0.take i.toNat=l1.take i.toNat)∧gQ w w')
  case atStart=>exact ⟨0,rfl,⟨⟨by omega,by omega⟩⟩,⟨by omega⟩,⟨rfl⟩,by repeat (first|exact gQ.refl _|apply gQ.step)⟩
  case round =>
   obtain ⟨i,rfl,HI,HG,HT,⟨m1,rfl⟩⟩:=hrel
   by_cases d:i<(l0.length:Int)
   ·have d0:decide (i<(l0.length:Int))=true:=fB d;have q1:i<(l1.length:Int):=by have:=C.out;omega
    have p0:0≤i:=HI.out.1;obtain ⟨ad,e0,hx0⟩:=Kd.jJ HR0.out i p0 d;obtain ⟨ae,e1,hx1⟩:=Kd.jJ HR1.out i p0 q1
    cases e0
    cases e1
    have D:=aA.mk d;have hwr:wrap64 (i+1)=i+1:=by have:=HM.out;unfold wrap64;omega
    have W:=aA.mk hwr;clear hwr;replace p0:=eq_true p0;replace d:=eq_true d;replace q1:=eq_true q1
    by_cases f:rd l0 i=rd l1 i
    ·have f0:(rd l0 i==rd l1 i)=true:=beq_iff_eq.2 f;have f1:(rd l0 i != rd l1 i)=false:=bne_eq_false_iff_eq.2 f;have F:=aA.mk f;clear f
     go_wp2
     repeat (go_quiet (fail);try go_wp2)
     go_roundg (l0.length-(i.toNat+1))
     case measure=>have:=HG.out;have:=D.out;have:=HI.out;omega
     case rel=>exact ⟨i+1,by have:=W.out;first|(rw [this];done)|(rw [this,this];done)|(simp [this];done),⟨⟨by have:=HI.out;omega,by have:=D.out;omega⟩⟩,⟨by have:=HI.out;omega⟩,⟨aEr l0 l1 i HI.out.1 D.out (by have:=C.out;have:=D.out;omega) HT.out F.out⟩,by repeat (first|exact gQ.refl _|apply gQ.step)⟩
    ·have f0:(rd l0 i==rd l1 i)=false:=beq_eq_false_iff_ne.2 f;have f1:(rd l0 i != rd l1 i)=true:=bne_iff_ne.2 f;have F:=aA.mk f;clear f;have hd:decide (l0=l1)=false:=kT (aLc l0 l1 _ F.out);have R:=aA.mk (HR.out.symm.trans hd);clear hd
     go_wp2
     repeat (go_quiet (fail);try go_wp2)
     go_ret
     exact ⟨by have h:=R.out;subst h;first|rfl|(simp;done)|(simp [*];done),by repeat (first|exact gQ.refl _|apply gQ.step)⟩
   ·have d0:decide (i<(l0.length:Int))=false:=kT d;have e:i.toNat=l0.length:=by have:=HI.out;omega
    have hd:decide (l0=l1)=true:=fB (aEs l0 l1 C.out (e ▸ HT.out));have R:=aA.mk (HR.out.symm.trans hd);clear hd;clear d e
    go_wp2
    go_ret
    exact ⟨by have h:=R.out;subst h;first|rfl|(simp;done)|(simp [*];done),by repeat (first|exact gQ.refl _|apply gQ.step)⟩
 ·have c1:((l0.length:Int)==(l1.length:Int))=false:=by rw [aLd];omega
  have c2:((l0.length:Int) != (l1.length:Int))=true:=by rw [bne_iff_ne];omega
  have C:=aA.mk c
  clear c hmax
  have hd:decide (l0=l1)=false:=kT (fun h=>C.out (by rw [h]))
  have R:=aA.mk (HR.out.symm.trans hd)
  clear hd
  go_wp2
  go_ret
  exact ⟨by have h:=R.out;subst h;first|rfl|(simp;done)|(simp [*];done),by repeat (first|exact gQ.refl _|apply gQ.step)⟩
def Ij (f g:nJ):Bool:=f.f1==g.f1 || (f.f0.toList==g.f0.toList&&decide (f.f2=g.f2))
set_option maxHeartbeats 8000000 in
set_option maxRecDepth 100000 in
theorem same.calls (B:Nat) (f g:nJ) (Af Ag:Option Addr) (cf cg:Nat) (w:World) (hB:B<w.heap.size) (hc0:w.cell? ⟨B,0,none⟩=some (.string f.f0)) (hc1:w.cell? ⟨B,1,none⟩=some (.int .i64 f.f1)) (hc2:w.cell? ⟨B,2,none⟩=some (.slice Af f.f2.length cf))
  (hrf:Kd.C (Kd.int .i64) w Af f.f2.length f.f2) (hrg:Kd.C (Kd.int .i64) w Ag g.f2.length g.f2) :
  Calls Try.prog 69 #[.agg #[.string g.f0,.int .i64 g.f1,.slice Ag g.f2.length cg],.pointer (some ⟨B,0,none⟩)] w fun e w'=>e=.returned (.bool (Ij f g))∧Below w.heap.size w w':=by
 have Jf:=Try.underlying54
 have hb1:Below w.heap.size w (w.alloc (.cells #[.string g.f0,.int .i64 g.f1,.slice Ag g.f2.length cg] 54)):=(Below.refl _ w).alloc (Nat.le_refl _) _
 have k0:=(hb1.cell (p:=⟨B,0,none⟩) hB).trans hc0
 have k1:=(hb1.cell (p:=⟨B,1,none⟩) hB).trans hc1
 have k2:=(hb1.cell (p:=⟨B,2,none⟩) hB).trans hc2
 have hG:=pY w (.cells #[.string g.f0,.int .i64 g.f1,.slice Ag g.f2.length cg] 54)
 have g0:(w.alloc (.cells #[.string g.f0,.int .i64 g.f1,.slice Ag g.f2.length cg] 54)).cell? ⟨w.heap.size,0,none⟩=some (.string g.f0):=(aC hG 0).trans rfl
 have g1:(w.alloc (.cells #[.string g.f0,.int .i64 g.f1,.slice Ag g.f2.length cg] 54)).cell? ⟨w.heap.size,1,none⟩=some (.int .i64 g.f1):=(aC hG 1).trans rfl
 have g2:(w.alloc (.cells #[.string g.f0,.int .i64 g.f1,.slice Ag g.f2.length cg] 54)).cell? ⟨w.heap.size,2,none⟩=some (.slice Ag g.f2.length cg):=(aC hG 2).trans rfl
 have aLe:=Kd.dP hrf hb1
 have hrg1:=Kd.dP hrg hb1
 have eqc:=slices_Equal.calls Af cf f.f2 Ag cg g.f2 _ aLe hrg1
 clear hrf hrg hc0 hc1 hc2 hG aLe hrg1
 have HB:=aA.mk hb1
 clear hb1
 unfold Ij
 obtain ⟨r,hr⟩:∃ r,decide (f.f2=g.f2)=r:=⟨_,rfl⟩
 rw [hr] at eqc ⊢
 clear hr
 have E:=aA.mk eqc
 clear eqc
 by_cases a:f.f1=g.f1
 ·have a0:(f.f1==g.f1)=true:=beq_iff_eq.2 a
  rw [a0,Bool.true_or]
  clear a
  go_enter Try.func69,Try.ntmps69
  go_wp2_with (fail)
  go_ret
  exact ⟨by first|rfl|(simp;done)|(simp [*];done),HB.out⟩
 ·have a0:(f.f1==g.f1)=false:=beq_eq_false_iff_ne.2 a
  rw [a0,Bool.false_or]
  clear a
  by_cases b:f.f0.toList=g.f0.toList
  ·have b0:(f.f0.toList==g.f0.toList)=true:=beq_iff_eq.2 b;rw [b0,Bool.true_and];clear b
   go_enter Try.func69,Try.ntmps69
   go_wp2_with (first|(go_at_call 70;refine (E.out).mono ?_;rintro e w' ⟨rfl,⟨m1,rfl⟩⟩))
   go_ret
   exact ⟨by first|rfl|(simp;done)|(simp [*];done),by repeat (first|exact HB.out|apply nV|apply fZ)⟩
  ·have b0:(f.f0.toList==g.f0.toList)=false:=beq_eq_false_iff_ne.2 b;rw [b0,Bool.false_and];clear b
   go_enter Try.func69,Try.ntmps69
   go_wp2_with (fail)
   go_ret
   exact ⟨by first|rfl|(simp;done)|(simp [*];done),HB.out⟩
set_option maxHeartbeats 8000000 in
set_option maxRecDepth 100000 in
theorem named.calls (B C:Nat) (name:ByteArray) (kinds:List Int) (g:nJ) (Af Ag:Option Addr) (cf cg:Nat) (w:World) (hB:B<w.heap.size) (hC:C<w.heap.size) (hc0:w.cell? ⟨B,0,none⟩=some (.string name)) (hc1:w.cell? ⟨C,0,none⟩=some (.slice Af kinds.length cf))
  (hrf:Kd.C (Kd.int .i64) w Af kinds.length kinds) (hrg:Kd.C (Kd.int .i64) w Ag g.f2.length g.f2) :
  Calls Try.prog 74 #[.agg #[.string g.f0,.int .i64 g.f1,.slice Ag g.f2.length cg],.pointer (some ⟨B,0,none⟩),.pointer (some ⟨C,0,none⟩)] w fun e w'=>e=.returned (.bool (g.f0.toList==name.toList&&decide (g.f2=kinds)))∧Below w.heap.size w w':=by
 have Jf:=Try.underlying54
 have hb1:Below w.heap.size w (w.alloc (.cells #[.string g.f0,.int .i64 g.f1,.slice Ag g.f2.length cg] 54)):=(Below.refl _ w).alloc (Nat.le_refl _) _
 have k0:=(hb1.cell (p:=⟨B,0,none⟩) hB).trans hc0
 have k1:=(hb1.cell (p:=⟨C,0,none⟩) hC).trans hc1
 have hG:=pY w (.cells #[.string g.f0,.int .i64 g.f1,.slice Ag g.f2.length cg] 54)
 have g0:(w.alloc (.cells #[.string g.f0,.int .i64 g.f1,.slice Ag g.f2.length cg] 54)).cell? ⟨w.heap.size,0,none⟩=some (.string g.f0):=(aC hG 0).trans rfl
 have g2:(w.alloc (.cells #[.string g.f0,.int .i64 g.f1,.slice Ag g.f2.length cg] 54)).cell? ⟨w.heap.size,2,none⟩=some (.slice Ag g.f2.length cg):=(aC hG 2).trans rfl
 have aLe:=Kd.dP hrf hb1
 have hrg1:=Kd.dP hrg hb1
 have eqc:=slices_Equal.calls Ag cg g.f2 Af cf kinds _ hrg1 aLe
 clear hrf hrg hc0 hc1 hG aLe hrg1
 have HB:=aA.mk hb1
 clear hb1
 obtain ⟨r,hr⟩:∃ r,decide (g.f2=kinds)=r:=⟨_,rfl⟩
 rw [hr] at eqc ⊢
 clear hr
 have E:=aA.mk eqc
 clear eqc
 by_cases b:g.f0.toList=name.toList
 ·have b0:(g.f0.toList==name.toList)=true:=beq_iff_eq.2 b
  rw [b0,Bool.true_and]
  clear b
  go_enter Try.func74,Try.ntmps74
  go_wp2_with (first|(go_at_call 70;refine (E.out).mono ?_;rintro e w' ⟨rfl,⟨m1,rfl⟩⟩))
  go_ret
  exact ⟨by first|rfl|(simp;done)|(simp [*];done),by repeat (first|exact HB.out|apply nV|apply fZ)⟩
 ·have b0:(g.f0.toList==name.toList)=false:=beq_eq_false_iff_ne.2 b
  rw [b0,Bool.false_and]
  clear b
  go_enter Try.func74,Try.ntmps74
  go_wp2_with (fail)
  go_ret
  exact ⟨by first|rfl|(simp;done)|(simp [*];done),HB.out⟩
end Go.Proofs.Ytipjpdiianopcaa.Cv
namespace Go.Proofs.Ytipjpdiianopcaa.Cv
open Go.RowKit Go.Proofs.YtipjpdiianopcaaW.dF Go.Proofs.YtipjpdiianopcaaW.fO Go.Proofs.YtipjpdiianopcaaW.jP Go.Proofs.Ytipjpdiianopcaa.A
set_option linter.unusedVariables false
set_option linter.unusedSimpArgs false
def Dn (p:nJ→Bool) (l:List nJ):Int:=match l.findIdx? p with|some i=>(i:Int)|none=>-1
theorem MQ (l:List nJ) (i:Int) (h0:0≤i) (h:i<(l.length:Int)):aI l i=l[i.toNat]'(by omega):=by
 unfold aI
 rw [List.getD_eq_getElem?_getD,Nr (by omega)]
 rfl
theorem QJ (l:List nJ) (i:Int) (h0:0≤i) (h:i<(l.length:Int)):aI l i ∈ l:=by
 rw [MQ l i h0 h]
 exact List.getElem_mem _
theorem aN7 (p:nJ→Bool) (l:List nJ) (i:Int) (h0:0≤i) (h:i<(l.length:Int)) (hp:p (aI l i)=true) (hn:∀ j:Nat,(j:Int)<i→p (aI l j)=false):Dn p l=i:=by
 have e:l.findIdx? p=some i.toNat:=by
  rw [List.findIdx?_eq_some_iff_getElem]
  refine ⟨by omega,?_,fun j hj=>?_⟩
  ·rw [← MQ l i h0 h];exact hp
  ·have:=hn j (by omega);rw [MQ l (j:Int) (by omega) (by omega)] at this
   simpa using this
 unfold Dn
 rw [e]
 show ((i.toNat:Nat):Int)=i
 omega
theorem aLf (p:nJ→Bool) (l:List nJ) (hn:∀ j:Nat,(j:Int)<(l.length:Int)→p (aI l j)=false):Dn p l=-1:=by
 have e:l.findIdx? p=none:=by
  rw [List.findIdx?_eq_none_iff]
  intro x hx
  obtain ⟨j,hj,rfl⟩:=List.getElem_of_mem hx
  have:=hn j (by omega)
  rw [MQ l (j:Int) (by omega) (by omega)] at this
  exact this
 unfold Dn
 rw [e]
theorem aIk (p:nJ→Bool) (l:List nJ):-1≤Dn p l∧Dn p l<(l.length:Int):=by
 unfold Dn
 cases e:l.findIdx? p with
 | none=>exact ⟨by simp,by simp;omega⟩
 | some i =>
  obtain ⟨h1,_⟩:=List.findIdx?_eq_some_iff_getElem.1 e
  exact ⟨by show (-1:Int)≤(i:Int);omega,by show (i:Int)<_;omega⟩
theorem aN8 (p:nJ→Bool) (l:List nJ):decide (Dn p l≥0)=l.any p:=by
 unfold Dn
 cases e:l.findIdx? p with
 | none =>
  rw [List.findIdx?_eq_none_iff] at e
  have:l.any p=false:=by
   rw [List.any_eq_false];intro x hx;rw [e x hx]
   simp
  rw [this]
  rfl
 | some i =>
  obtain ⟨h1,h2,_⟩:=List.findIdx?_eq_some_iff_getElem.1 e
  have:l.any p=true:=List.any_eq_true.2 ⟨_,List.getElem_mem h1,h2⟩
  rw [this]
  exact fB (by show (0:Int)≤(i:Int);omega)
def aGL (g:Nat) (lb:Array Value) (p:nJ→Bool) (l:List nJ) (w:World):Prop :=
 ∀ (W:World) (x:nJ) (Ag:Option Addr) (cg:Nat),Below w.heap.size w W→x ∈ l→Kd.C (Kd.int .i64) W Ag x.f2.length x.f2 →
  Calls Try.prog g (#[.agg #[.string x.f0,.int .i64 x.f1,.slice Ag x.f2.length cg]] ++ lb) W fun e w'=>e=.returned (.bool (p x))∧Below W.heap.size W w'
set_option maxHeartbeats 1000000 in
set_option maxRecDepth 100000 in
theorem IndexFunc.calls (g:Nat) (lb:Array Value) (p:nJ→Bool) (eg:∀ args w,(callFunc g args).run Try.prog w=.ok (.enter g args) w) (A0:Option Addr) (c0:Nat) (l0:List nJ) (w:World) (hr0:Kd.C Nv w A0 l0.length l0) (hp:aGL g lb p l0 w) :
  Calls Try.prog 73 #[.slice A0 l0.length c0,.func (.func g) #[] lb] w fun e w'=>e=.returned (.int .i64 (Dn p l0))∧Below w.heap.size w w':=by
 have Jf:=Try.underlying54
 have HM:=aA.mk hr0.2.1
 have HR0:=aA.mk hr0
 have HP:=aA.mk hp
 clear hr0 hp
 obtain ⟨r,hr⟩:∃ r,Dn p l0=r:=⟨_,rfl⟩
 rw [hr]
 have R:=aA.mk hr
 clear hr
 go_enter Try.func73,Try.ntmps73
 go_wp2_with (fail)
 go_loopg [8] l0.length (fun kq v8 w'=>∃ (i:Int),v8=.int .i64 i∧aA (0≤i∧i≤l0.length)∧aA (l0.length-i.toNat≤kq)∧aA (∀ j:Nat,(j:Int)<i→p (aI l0 j)=false)∧aA (Below w.heap.size w w'))
 case atStart=>exact ⟨0,rfl,⟨⟨by omega,by omega⟩⟩,⟨by omega⟩,⟨fun j h=>by omega⟩,⟨Below.refl _ _⟩⟩
 case round =>
  obtain ⟨i,rfl,HI,HG,HT,HB⟩:=hrel
  by_cases d:i<(l0.length:Int)
  ·have d0:decide (i<(l0.length:Int))=true:=fB d;have p0:0≤i:=HI.out.1;obtain ⟨ad,A2,c2,e0,hx0,hx1,hx2,hl2,hi2⟩:=rJ (Kd.dP HR0.out HB.out) i p0 d
   cases e0
   have hcall:=HP.out wr (aI l0 i) A2 c2 HB.out (QJ l0 i p0 d) hi2;have HC:=aA.mk hcall;clear hcall hl2 hi2;have D:=aA.mk d;have hwr:wrap64 (i+1)=i+1:=by have:=HM.out;unfold wrap64;omega
   have W:=aA.mk hwr;clear hwr;replace p0:=eq_true p0;replace d:=eq_true d
   cases f:p (aI l0 i) with
   | true =>
    have F:=aA.mk f;rw [f] at HC;clear f
    go_wp2_with (fail)
    refine (HC.out).mono ?_;rintro e w' ⟨rfl,hb'⟩;have HB2:=aA.mk hb';clear hb'
    go_wp2_with (fail)
    go_ret
    exact ⟨by have h:=R.out;rw [aN7 p l0 i HI.out.1 D.out F.out HT.out] at h;subst h;first|rfl|(simp;done)|(simp [*];done),HB.out.trans (HB2.out.mono HB.out.size)⟩
   | false =>
    have F:=aA.mk f;rw [f] at HC;clear f
    go_wp2_with (fail)
    refine (HC.out).mono ?_;rintro e w' ⟨rfl,hb'⟩;have HB2:=aA.mk hb';clear hb'
    go_wp2_with (fail)
    go_roundg (l0.length-(i.toNat+1))
    case measure=>have:=HG.out;have:=D.out;have:=HI.out;omega
    case rel=>exact ⟨i+1,by have:=W.out;first|(rw [this];done)|(rw [this,this];done)|(simp [this];done),⟨⟨by have:=HI.out;omega,by have:=D.out;omega⟩⟩,⟨by have:=HI.out;omega⟩,⟨fun j hj=>by
     by_cases e:(j:Int)=i
     ·rw [e];exact F.out
     ·exact HT.out j (by omega)⟩,⟨HB.out.trans (HB2.out.mono HB.out.size)⟩⟩
  ·have d0:decide (i<(l0.length:Int))=false:=kT d;have e:i=(l0.length:Int):=by have:=HI.out;omega
   have hd:=aLf p l0 (e ▸ HT.out);have R2:=aA.mk (R.out.symm.trans hd);clear d e hd
   go_wp2_with (fail)
   go_ret
   exact ⟨by have h:=R2.out;subst h;first|rfl|(simp;done)|(simp [*];done),HB.out⟩
set_option maxHeartbeats 1000000 in
set_option maxRecDepth 100000 in
theorem ContainsFunc.calls (g:Nat) (lb:Array Value) (p:nJ→Bool) (eg:∀ args w,(callFunc g args).run Try.prog w=.ok (.enter g args) w) (A0:Option Addr) (c0:Nat) (l0:List nJ) (w:World) (hr0:Kd.C Nv w A0 l0.length l0) (hp:aGL g lb p l0 w) :
  Calls Try.prog 71 #[.slice A0 l0.length c0,.func (.func g) #[] lb] w fun e w'=>e=.returned (.bool (l0.any p))∧Below w.heap.size w w':=by
 have hcall:=IndexFunc.calls g lb p eg A0 c0 l0 w hr0 hp
 rw [← aN8 p l0]
 generalize Dn p l0=r at hcall ⊢
 have HC:=aA.mk hcall
 clear hcall hr0 hp
 by_cases d:r≥0
 ·have d0:decide (r≥0)=true:=fB d
  have d1:decide (0≤r)=true:=fB d
  rw [d0]
  clear d
  go_enter Try.func71,Try.ntmps71
  go_wp2_with (first|(go_at_call 73;refine (HC.out).mono ?_;rintro e w' ⟨rfl,hb'⟩;have HB2:=aA.mk hb';clear hb'))
  go_ret
  exact ⟨by first|rfl|(simp;done)|(simp [*];done),HB2.out⟩
 ·have d0:decide (r≥0)=false:=kT d
  have d1:decide (0≤r)=false:=kT d
  rw [d0]
  clear d
  go_enter Try.func71,Try.ntmps71
  go_wp2_with (first|(go_at_call 73;refine (HC.out).mono ?_;rintro e w' ⟨rfl,hb'⟩;have HB2:=aA.mk hb';clear hb'))
  go_ret
  exact ⟨by first|rfl|(simp;done)|(simp [*];done),HB2.out⟩
end Go.Proofs.Ytipjpdiianopcaa.Cv
namespace Go.Proofs.Ytipjpdiianopcaa.Cv
open Go.RowKit Go.Proofs.YtipjpdiianopcaaW.dF Go.Proofs.YtipjpdiianopcaaW.fO Go.Proofs.YtipjpdiianopcaaW.jP Go.Proofs.Ytipjpdiianopcaa.A
attribute [local go_sem] mV mW oO oP lC lD mX mY
set_option linter.unusedVariables false
set_option linter.unusedSimpArgs false
def jQ.l0:Nat→List nJ→Int→Option (Int × Int)
 | 0,_,_=>none
 | k+1,l0,i=>if i<(l0.length:Int) then ((jZ.f k (aI l0 i).f0 (aI l0 i).f1 (aI l0 i).f2).bind fun t=>(if t=0 then (if (l0.take i.toNat).any (Ij (aI l0 i))=true then (some (7,i)) else (jQ.l0 k l0 (wrap64 (i+1)))) else (some (t,i)))) else (some (0,0))
def jQ.f (k:Nat) (l0:List nJ):Option (Int × Int):=if (l0.length:Int)>100 then some (2,-1) else jQ.l0 k l0 0
theorem Xt {P : Program} {f : FuncId} {fn : Func} {c : Code} (hf : P.funcs[f]? = some fn) (hname : (fn.name == "runtime.NumGoroutine") = false) (hb : fn.body = some c) : ∀ args w, (callFunc f args).run P w = .ok (.enter f args) w := by
 intro args w
 have h1 : fn.name ≠ "runtime.NumGoroutine" := by simpa using hname
 simp [callFunc,hf,h1,hb,mark]
theorem Qs {w W:World} {f:nJ} {A2:Option Addr} {c2 g4:Nat} {l:List nJ} (hr:Kd.C (Kd.int .i64) w A2 f.f2.length f.f2) (hb:Below w.heap.size w W) (hk:W.heap[g4]?=some (.cells #[.string f.f0,.int .i64 f.f1,.slice A2 f.f2.length c2] 54 (0,0))):aGL 69 #[.pointer (some ⟨g4,0,none⟩)] (Ij f) l W:=by
 intro V x Ag cg hV hx hg
 have hlt:g4<W.heap.size:=bU hk
 have hk':=aK hk hV
 exact same.calls g4 f x A2 Ag c2 cg V (Nat.lt_of_lt_of_le hlt hV.size) ((aC hk' 0).trans rfl) ((aC hk' 1).trans rfl) ((aC hk' 2).trans rfl) (Kd.dP (Kd.dP hr hb) hV) hg
set_option maxHeartbeats 1000000 in
set_option maxRecDepth 100000 in
theorem jQ.calls (k:Nat) (A0:Option Addr) (c0:Nat) (l0:List (nJ)) (r1:Int) (r2:Int) (w:World) (hr0:Kd.C Nv w A0 l0.length l0) (hc0:l0.length≤c0) (h:jQ.f k l0=some (r1,r2)) :
  Calls Try.prog 35 #[.slice A0 l0.length c0] w fun e w'=>e=.returned (.agg #[.int .i64 r1,.int .i64 r2])∧Below w.heap.size w w':=by
 have NL:=Try.underlying27
 have Jf:=Try.underlying54
 have hmf:∀ (fn:Fn) (first cap:Array Value) (w:World),(Instr.makeFunc fn first cap).run Try.prog w=.ok (.func fn first cap) w:=fun _ _ _ _=>rfl
 have eg:∀ args w,(callFunc 69 args).run Try.prog w=.ok (.enter 69 args) w:=Xt Try.func69 aQ rfl
 have HR0:=aA.mk hr0
 have Am:=aA.mk hc0
 clear hr0 hc0
 have HB:=aA.mk (Below.refl w.heap.size w)
 unfold jQ.f at h
 by_cases c:(l0.length:Int)>100
 ·rw [if_pos c] at h
  have c0b:decide (100<(l0.length:Int))=true:=fB c
  have c1b:decide (100<l0.length)=true:=fB (by omega)
  clear c
  simp only [Option.some.injEq,Prod.mk.injEq] at h
  obtain ⟨rfl,rfl⟩:=h
  go_enter Try.func35,Try.ntmps35
  go_wp2_with (first|((with_reducible refine dH (N:=2) rfl ?_);refine dB ?hg (N:=2) ?hd (cs:=#[.int .i64 0,.int .i64 0]) (t:=27) ?hr ?_;(case hd=>rfl);(case hg=>rfl);(case hr=>first|(go_simp;done)|(go_simp;rfl));intro gb hg w4 hbox hb;have bT:=aA.mk (aT (dG HB.out) hb);have bW:=aA.mk hbox;have dA:=aA.mk ((by rw [hg];exact (aN (dG HB.out))):w.heap.size≤gb);clear HB;have HB:=bT;have BK:=bW;have GE:=dA;clear bT bW dA;clear hb hbox hg;have aEt:w4.cell? ⟨gb,0,none⟩=some (.int .i64 0):=(aC BK.out 0).trans rfl;have aEu:w4.cell? ⟨gb,1,none⟩=some (.int .i64 0):=(aC BK.out 1).trans rfl;have aEv:=aG BK.out 0;have hfz1:=aG BK.out 1))
  refine bodyPost_ret (results_cell_row rfl _ _ gb 27 #[.int .i64 2,.int .i64 (-1)] (0,0) _ rfl (by refine aH ?_;refine aY (cs:=#[.int .i64 2,.int .i64 0]) ?_ 1 _ rfl;refine aH ?_;refine aY (cs:=#[.int .i64 0,.int .i64 0]) ?_ 0 _ rfl;refine aH ?_;exact BK.out) Try.underlying27 rfl aQ) rfl ?_
  exact ⟨by first|rfl|(simp;done)|(simp [*];done),bV HB.out GE.out⟩
 ·rw [if_neg c] at h
  have c0b:decide (100<(l0.length:Int))=false:=kT c
  have c1b:decide (100<l0.length)=false:=kT (by omega)
  have CL:=aA.mk c
  clear c
  have H':=aA.mk h
  clear h
  go_enter Try.func35,Try.ntmps35
  go_wp2_with (first|((with_reducible refine dH (N:=2) rfl ?_);refine dB ?hg (N:=2) ?hd (cs:=#[.int .i64 0,.int .i64 0]) (t:=27) ?hr ?_;(case hd=>rfl);(case hg=>rfl);(case hr=>first|(go_simp;done)|(go_simp;rfl));intro gb hg w4 hbox hb;have bT:=aA.mk (aT (dG HB.out) hb);have bW:=aA.mk hbox;have dA:=aA.mk ((by rw [hg];exact (aN (dG HB.out))):w.heap.size≤gb);clear HB;have HB:=bT;have BK:=bW;have GE:=dA;clear bT bW dA;clear hb hbox hg;have aEt:w4.cell? ⟨gb,0,none⟩=some (.int .i64 0):=(aC BK.out 0).trans rfl;have aEu:w4.cell? ⟨gb,1,none⟩=some (.int .i64 0):=(aC BK.out 1).trans rfl;have aEv:=aG BK.out 0;have hfz1:=aG BK.out 1))
  go_loopg [13] k (fun kq v13 w'=>∃ (i a b:Int),v13=.int .i64 i∧aA (0≤i)∧aA (jQ.l0 kq l0 i=some (r1,r2))∧aA (kq≤k)∧aA (w'.heap[gb]?=some (.cells #[.int .i64 a,.int .i64 b] 27 (0,0)))∧aA (Below w.heap.size w w'))
  case atStart=>exact ⟨0,0,0,rfl,⟨Int.le_refl _⟩,H',⟨Nat.le_refl _⟩,⟨by refine aH ?_;exact BK.out⟩,⟨bV HB.out GE.out⟩⟩
  case round =>
   clear H' HB BK;obtain ⟨i,a,b,rfl,HI,HA,wU,BK,HB⟩:=hrel
   cases gk with
   | zero=>exact absurd HA.out (by simp [jQ.l0])
   | succ k1 =>
    have H:=HA.out;clear HA;simp only [jQ.l0] at H
    by_cases d:i<(l0.length:Int)
    ·rw [if_pos d] at H;have d0:decide (i<(l0.length:Int))=true:=fB d;have p0:0≤i:=HI.out;obtain ⟨ad,A2,c2,e0,hx0,hx1,hx2,hl2,hi2⟩:=rJ HR0.out i p0 d
     cases e0
     replace hx0:=(HB.out.cell (dM w _ hx0)).trans hx0;replace hx1:=(HB.out.cell (dM w _ hx1)).trans hx1;replace hx2:=(HB.out.cell (dM w _ hx2)).trans hx2;have HR2:=aA.mk hi2;have HC2:=aA.mk hl2;clear hi2 hl2;have HT:=aA.mk (show i.toNat≤l0.length by omega);have N1:=aA.mk (show (l0.take i.toNat).length=i.toNat by rw [Fq];omega);have D:=aA.mk d;have hwr:wrap64 (i+1)=i+1:=by have:=CL.out;unfold wrap64;omega
     have WR:=aA.mk hwr;clear hwr;obtain ⟨i54,bH1,_,_,_⟩:=info_parts aQI;have cut:=aJP (P:=Try.prog) 47 54 .i64 Try.underlying47 bH1 (some ad) l0.length c0 i p0 (by omega) Am.out;replace p0:=eq_true p0;replace d:=eq_true d;replace H:=Option.bind_eq_some_iff.mp H;obtain ⟨t,A10,H⟩:=H;have A1:=aA.mk A10;clear A10
     by_cases e:t=0
     ·rw [if_pos e] at H;subst e
      by_cases f:(l0.take i.toNat).any (Ij (aI l0 i))=true
      ·rw [if_pos f] at H;simp only [Option.some.injEq,Prod.mk.injEq] at H;obtain ⟨rfl,rfl⟩:=H;have F:=aA.mk f;clear f
       go_wp2_with (first|((with_reducible refine dH (N:=4) rfl ?_);refine dB ?hg (N:=4) ?hd (cs:=#[.string (⟨#[]⟩:ByteArray),.int .i64 0,.slice none 0 0]) (t:=54) ?hr ?_;(case hd=>rfl);(case hg=>rfl);(case hr=>first|(go_simp;done)|(go_simp;rfl));intro g4 hg w16 hbox hb;have bT:=aA.mk (aK (g:=gb) (o:=.cells #[.int .i64 a,.int .i64 b] 27 (0,0)) (aH BK.out) hb);have bW:=aA.mk (aT (bV HB.out GE.out) hb);have dA:=aA.mk hbox;have dN:=aA.mk ((by rw [hg];exact (aN (bV HB.out GE.out))):w.heap.size≤g4);have fV:=aA.mk ((by rw [hg];exact Nat.ne_of_lt (bU (g:=gb) (o:=.cells #[.int .i64 a,.int .i64 b] 27 (0,0)) (aH BK.out)):gb≠g4));have jA:=aA.mk fV.out.symm;clear BK HB;have BK:=bT;have HB:=bW;have QK:=dA;have GE4:=dN;have NB:=fV;have NB':=jA;clear bT bW dA dN fV jA;clear hb hbox hg;have hnb:=NB'.out;have hnc:=NB.out;have hd0:w16.cell? ⟨g4,0,none⟩=some (.string (⟨#[]⟩:ByteArray)):=(aC QK.out 0).trans rfl;have hd1:w16.cell? ⟨g4,1,none⟩=some (.int .i64 0):=(aC QK.out 1).trans rfl;have hd2:w16.cell? ⟨g4,2,none⟩=some (.slice none 0 0):=(aC QK.out 2).trans rfl;have hg0:=aG QK.out 0;have hg1:=aG QK.out 1;have hg2:=aG QK.out 2)|(go_at_call 68;refine (jZ.calls k1 (aI l0 i).f0 (aI l0 i).f1 A2 c2 (aI l0 i).f2 _ _ (Kd.dP HR2.out (dK HB.out GE.out GE4.out)) HC2.out A1.out).mono ?_;rintro e XX ⟨rfl,hb⟩;have bT:=aA.mk (aK (g:=gb) (o:=.cells #[.int .i64 a,.int .i64 b] 27 (0,0)) (by refine aH ?_;refine aU ?_ NB.out _;refine aH ?_;refine aU ?_ NB.out _;refine aH ?_;refine aU ?_ NB.out _;refine aH ?_;exact BK.out) hb);have bW:=aA.mk (aK (g:=g4) (o:=.cells #[.string (aI l0 i).f0,.int .i64 (aI l0 i).f1,.slice A2 (aI l0 i).f2.length c2] 54 (0,0)) (by refine aH ?_;refine aY (cs:=#[.string (aI l0 i).f0,.int .i64 (aI l0 i).f1,.slice none 0 0]) ?_ 2 _ rfl;refine aH ?_;refine aY (cs:=#[.string (aI l0 i).f0,.int .i64 0,.slice none 0 0]) ?_ 1 _ rfl;refine aH ?_;refine aY (cs:=#[.string (⟨#[]⟩:ByteArray),.int .i64 0,.slice none 0 0]) ?_ 0 _ rfl;refine aH ?_;exact QK.out) hb);have dA:=aA.mk (aT (dK HB.out GE.out GE4.out) hb);clear BK QK HB;have BK:=bT;have QK:=bW;have HB:=dA;clear bT bW dA;clear hb;have aEt:XX.cell? ⟨gb,0,none⟩=some (.int .i64 a):=(aC BK.out 0).trans rfl;have aEu:XX.cell? ⟨gb,1,none⟩=some (.int .i64 b):=(aC BK.out 1).trans rfl;have aEv:=aG BK.out 0;have hfz1:=aG BK.out 1)|(go_at_call 71;have hcc:=ContainsFunc.calls 69 #[.pointer (some ⟨g4,0,none⟩)] (Ij (aI l0 i)) eg (some ad) c0 (l0.take i.toNat) _ (Kd.dP (Kd.aBi HR0.out HT.out) HB.out) (Qs HR2.out HB.out QK.out);rw [N1.out,F.out] at hcc;refine hcc.mono ?_;clear hcc;rintro e Rf ⟨rfl,hb⟩;have bT:=aA.mk (aK (g:=gb) (o:=.cells #[.int .i64 a,.int .i64 b] 27 (0,0)) (aH BK.out) hb);have dA:=aA.mk (aT (dK HB.out GE.out GE4.out) hb);clear BK HB;have BK:=bT;have HB:=dA;clear bT dA;clear hb;have aEt:Rf.cell? ⟨gb,0,none⟩=some (.int .i64 a):=(aC BK.out 0).trans rfl;have aEu:Rf.cell? ⟨gb,1,none⟩=some (.int .i64 b):=(aC BK.out 1).trans rfl;have aEv:=aG BK.out 0;have hfz1:=aG BK.out 1))
       refine bodyPost_ret (results_cell_row rfl _ _ gb 27 #[.int .i64 7,.int .i64 i] (0,0) _ rfl (by refine aH ?_;refine aY (cs:=#[.int .i64 7,.int .i64 b]) ?_ 1 _ rfl;refine aH ?_;refine aY (cs:=#[.int .i64 a,.int .i64 b]) ?_ 0 _ rfl;refine aH ?_;exact BK.out) Try.underlying27 rfl aQ) rfl ?_;exact ⟨by first|rfl|(simp;done)|(simp [*];done),dK HB.out GE.out GE4.out⟩
      ·rw [if_neg f] at H;have F:=aA.mk (Bool.eq_false_iff.2 f);clear f;have H':=aA.mk H;clear H
       go_wp2_with (first|((with_reducible refine dH (N:=4) rfl ?_);refine dB ?hg (N:=4) ?hd (cs:=#[.string (⟨#[]⟩:ByteArray),.int .i64 0,.slice none 0 0]) (t:=54) ?hr ?_;(case hd=>rfl);(case hg=>rfl);(case hr=>first|(go_simp;done)|(go_simp;rfl));intro g4 hg w16 hbox hb;have bT:=aA.mk (aK (g:=gb) (o:=.cells #[.int .i64 a,.int .i64 b] 27 (0,0)) (aH BK.out) hb);have bW:=aA.mk (aT (bV HB.out GE.out) hb);have dA:=aA.mk hbox;have dN:=aA.mk ((by rw [hg];exact (aN (bV HB.out GE.out))):w.heap.size≤g4);have fV:=aA.mk ((by rw [hg];exact Nat.ne_of_lt (bU (g:=gb) (o:=.cells #[.int .i64 a,.int .i64 b] 27 (0,0)) (aH BK.out)):gb≠g4));have jA:=aA.mk fV.out.symm;clear BK HB;have BK:=bT;have HB:=bW;have QK:=dA;have GE4:=dN;have NB:=fV;have NB':=jA;clear bT bW dA dN fV jA;clear hb hbox hg;have hnb:=NB'.out;have hnc:=NB.out;have hd0:w16.cell? ⟨g4,0,none⟩=some (.string (⟨#[]⟩:ByteArray)):=(aC QK.out 0).trans rfl;have hd1:w16.cell? ⟨g4,1,none⟩=some (.int .i64 0):=(aC QK.out 1).trans rfl;have hd2:w16.cell? ⟨g4,2,none⟩=some (.slice none 0 0):=(aC QK.out 2).trans rfl;have hg0:=aG QK.out 0;have hg1:=aG QK.out 1;have hg2:=aG QK.out 2)|(go_at_call 68;refine (jZ.calls k1 (aI l0 i).f0 (aI l0 i).f1 A2 c2 (aI l0 i).f2 _ _ (Kd.dP HR2.out (dK HB.out GE.out GE4.out)) HC2.out A1.out).mono ?_;rintro e XX ⟨rfl,hb⟩;have bT:=aA.mk (aK (g:=gb) (o:=.cells #[.int .i64 a,.int .i64 b] 27 (0,0)) (by refine aH ?_;refine aU ?_ NB.out _;refine aH ?_;refine aU ?_ NB.out _;refine aH ?_;refine aU ?_ NB.out _;refine aH ?_;exact BK.out) hb);have bW:=aA.mk (aK (g:=g4) (o:=.cells #[.string (aI l0 i).f0,.int .i64 (aI l0 i).f1,.slice A2 (aI l0 i).f2.length c2] 54 (0,0)) (by refine aH ?_;refine aY (cs:=#[.string (aI l0 i).f0,.int .i64 (aI l0 i).f1,.slice none 0 0]) ?_ 2 _ rfl;refine aH ?_;refine aY (cs:=#[.string (aI l0 i).f0,.int .i64 0,.slice none 0 0]) ?_ 1 _ rfl;refine aH ?_;refine aY (cs:=#[.string (⟨#[]⟩:ByteArray),.int .i64 0,.slice none 0 0]) ?_ 0 _ rfl;refine aH ?_;exact QK.out) hb);have dA:=aA.mk (aT (dK HB.out GE.out GE4.out) hb);clear BK QK HB;have BK:=bT;have QK:=bW;have HB:=dA;clear bT bW dA;clear hb;have aEt:XX.cell? ⟨gb,0,none⟩=some (.int .i64 a):=(aC BK.out 0).trans rfl;have aEu:XX.cell? ⟨gb,1,none⟩=some (.int .i64 b):=(aC BK.out 1).trans rfl;have aEv:=aG BK.out 0;have hfz1:=aG BK.out 1)|(go_at_call 71;have hcc:=ContainsFunc.calls 69 #[.pointer (some ⟨g4,0,none⟩)] (Ij (aI l0 i)) eg (some ad) c0 (l0.take i.toNat) _ (Kd.dP (Kd.aBi HR0.out HT.out) HB.out) (Qs HR2.out HB.out QK.out);rw [N1.out,F.out] at hcc;refine hcc.mono ?_;clear hcc;rintro e Rf ⟨rfl,hb⟩;have bT:=aA.mk (aK (g:=gb) (o:=.cells #[.int .i64 a,.int .i64 b] 27 (0,0)) (aH BK.out) hb);have dA:=aA.mk (aT (dK HB.out GE.out GE4.out) hb);clear BK HB;have BK:=bT;have HB:=dA;clear bT dA;clear hb;have aEt:Rf.cell? ⟨gb,0,none⟩=some (.int .i64 a):=(aC BK.out 0).trans rfl;have aEu:Rf.cell? ⟨gb,1,none⟩=some (.int .i64 b):=(aC BK.out 1).trans rfl;have aEv:=aG BK.out 0;have hfz1:=aG BK.out 1))
       go_roundg k1
       case measure=>have:=wU.out;omega
       case rel=>exact ⟨wrap64 (i+1),a,b,by first|rfl|(simp;done),⟨by rw [WR.out];have:=HI.out;omega⟩,H',⟨by have:=wU.out;omega⟩,⟨by refine aH ?_;exact BK.out⟩,⟨dK HB.out GE.out GE4.out⟩⟩
     ·rw [if_neg e] at H;have e0:(t==0)=false:=beq_eq_false_iff_ne.2 e;have e1:(t != 0)=true:=bne_iff_ne.2 e;clear e;simp only [Option.some.injEq,Prod.mk.injEq] at H;obtain ⟨rfl,rfl⟩:=H
      go_wp2_with (first|((with_reducible refine dH (N:=4) rfl ?_);refine dB ?hg (N:=4) ?hd (cs:=#[.string (⟨#[]⟩:ByteArray),.int .i64 0,.slice none 0 0]) (t:=54) ?hr ?_;(case hd=>rfl);(case hg=>rfl);(case hr=>first|(go_simp;done)|(go_simp;rfl));intro g4 hg w16 hbox hb;have bT:=aA.mk (aK (g:=gb) (o:=.cells #[.int .i64 a,.int .i64 b] 27 (0,0)) (aH BK.out) hb);have bW:=aA.mk (aT (bV HB.out GE.out) hb);have dA:=aA.mk hbox;have dN:=aA.mk ((by rw [hg];exact (aN (bV HB.out GE.out))):w.heap.size≤g4);have fV:=aA.mk ((by rw [hg];exact Nat.ne_of_lt (bU (g:=gb) (o:=.cells #[.int .i64 a,.int .i64 b] 27 (0,0)) (aH BK.out)):gb≠g4));have jA:=aA.mk fV.out.symm;clear BK HB;have BK:=bT;have HB:=bW;have QK:=dA;have GE4:=dN;have NB:=fV;have NB':=jA;clear bT bW dA dN fV jA;clear hb hbox hg;have hnb:=NB'.out;have hnc:=NB.out;have hd0:w16.cell? ⟨g4,0,none⟩=some (.string (⟨#[]⟩:ByteArray)):=(aC QK.out 0).trans rfl;have hd1:w16.cell? ⟨g4,1,none⟩=some (.int .i64 0):=(aC QK.out 1).trans rfl;have hd2:w16.cell? ⟨g4,2,none⟩=some (.slice none 0 0):=(aC QK.out 2).trans rfl;have hg0:=aG QK.out 0;have hg1:=aG QK.out 1;have hg2:=aG QK.out 2)|(go_at_call 68;refine (jZ.calls k1 (aI l0 i).f0 (aI l0 i).f1 A2 c2 (aI l0 i).f2 _ _ (Kd.dP HR2.out (dK HB.out GE.out GE4.out)) HC2.out A1.out).mono ?_;rintro e XX ⟨rfl,hb⟩;have bT:=aA.mk (aK (g:=gb) (o:=.cells #[.int .i64 a,.int .i64 b] 27 (0,0)) (by refine aH ?_;refine aU ?_ NB.out _;refine aH ?_;refine aU ?_ NB.out _;refine aH ?_;refine aU ?_ NB.out _;refine aH ?_;exact BK.out) hb);have bW:=aA.mk (aK (g:=g4) (o:=.cells #[.string (aI l0 i).f0,.int .i64 (aI l0 i).f1,.slice A2 (aI l0 i).f2.length c2] 54 (0,0)) (by refine aH ?_;refine aY (cs:=#[.string (aI l0 i).f0,.int .i64 (aI l0 i).f1,.slice none 0 0]) ?_ 2 _ rfl;refine aH ?_;refine aY (cs:=#[.string (aI l0 i).f0,.int .i64 0,.slice none 0 0]) ?_ 1 _ rfl;refine aH ?_;refine aY (cs:=#[.string (⟨#[]⟩:ByteArray),.int .i64 0,.slice none 0 0]) ?_ 0 _ rfl;refine aH ?_;exact QK.out) hb);have dA:=aA.mk (aT (dK HB.out GE.out GE4.out) hb);clear BK QK HB;have BK:=bT;have QK:=bW;have HB:=dA;clear bT bW dA;clear hb;have aEt:XX.cell? ⟨gb,0,none⟩=some (.int .i64 a):=(aC BK.out 0).trans rfl;have aEu:XX.cell? ⟨gb,1,none⟩=some (.int .i64 b):=(aC BK.out 1).trans rfl;have aEv:=aG BK.out 0;have hfz1:=aG BK.out 1))
      refine bodyPost_ret (results_cell_row rfl _ _ gb 27 #[.int .i64 t,.int .i64 i] (0,0) _ rfl (by refine aH ?_;refine aY (cs:=#[.int .i64 t,.int .i64 b]) ?_ 1 _ rfl;refine aH ?_;refine aY (cs:=#[.int .i64 a,.int .i64 b]) ?_ 0 _ rfl;refine aH ?_;exact BK.out) Try.underlying27 rfl aQ) rfl ?_;exact ⟨by first|rfl|(simp;done)|(simp [*];done),dK HB.out GE.out GE4.out⟩
    ·rw [if_neg d] at H;have d0:decide (i<(l0.length:Int))=false:=kT d;clear d;simp only [Option.some.injEq,Prod.mk.injEq] at H;obtain ⟨rfl,rfl⟩:=H;have aEt:wr.cell? ⟨gb,0,none⟩=some (.int .i64 a):=(aC BK.out 0).trans rfl;have aEu:wr.cell? ⟨gb,1,none⟩=some (.int .i64 b):=(aC BK.out 1).trans rfl;have aEv:=aG BK.out 0;have hfz1:=aG BK.out 1
     go_wp2_with (fail)
     refine bodyPost_ret (results_cell_row rfl _ _ gb 27 #[.int .i64 0,.int .i64 0] (0,0) _ rfl (by refine aH ?_;refine aY (cs:=#[.int .i64 0,.int .i64 b]) ?_ 1 _ rfl;refine aH ?_;refine aY (cs:=#[.int .i64 a,.int .i64 b]) ?_ 0 _ rfl;refine aH ?_;exact BK.out) Try.underlying27 rfl aQ) rfl ?_;exact ⟨by first|rfl|(simp;done)|(simp [*];done),bV HB.out GE.out⟩
end Go.Proofs.Ytipjpdiianopcaa.Cv
namespace Go.Proofs.Ytipjpdiianopcaa.Cv
open Go.RowKit Go.Proofs.YtipjpdiianopcaaW.dF Go.Proofs.YtipjpdiianopcaaW.fO Go.Proofs.YtipjpdiianopcaaW.jP Go.Proofs.Ytipjpdiianopcaa.A
attribute [local go_sem] mV mW oO oP lC lD mX mY
set_option linter.unusedVariables false
set_option linter.unusedSimpArgs false
theorem RP (d:Nat) (w:World) (x0 y0:Int) (x1 y1:Int) :
  (Op.equalIn (d+2) 27 (.agg #[.int .i64 x0,.int .i64 x1]) (.agg #[.int .i64 y0,.int .i64 y1])).run Try.prog w=.ok (x0==y0&&(x1==y1)) w:=by
 refine aLg Try.underlying27 aQ ?_
 refine aC5 (by rfl) (by go_simp;rfl) (by go_simp;rfl) (by go_simp) ?_
 exact aC6 (by rfl) (by go_simp;rfl) (by go_simp;rfl) (by go_simp)
attribute [local go_sem high] RP
end Go.Proofs.Ytipjpdiianopcaa.Cv
