/- Words and contracts for the laws. -/
import Derived.Test.YtipjpdiianopcaarAx0
import Derived.Test.YtipjpdiianopcaarAx6
namespace Go.Proofs.Ytipjpdiianopcaa.Cv
open Go.RowKit Go.Proofs.YtipjpdiianopcaaW.aZ Go.Proofs.YtipjpdiianopcaaW.dQ Go.Proofs.YtipjpdiianopcaaW.gW Go.Proofs.Ytipjpdiianopcaa.A
set_option linter.unusedVariables false
set_option linter.unusedSimpArgs false
theorem KP (l:List Int) (i:Nat) (h:i<l.length):rd l (i:Int)=l[i]:=by
 unfold rd
 rw [Int.toNat_natCast,List.getD_eq_getElem?_getD,Eb h]
 rfl
theorem IZ (a b:List Int) (i:Nat) (ha:i<a.length) (hb:i<b.length) (h:a.take i=b.take i) (e:rd a (i:Int)=rd b (i:Int)):a.take (i+1)=b.take (i+1):=by
 rw [KP a i ha,KP b i hb] at e
 rw [List.take_succ_eq_append_getElem ha,List.take_succ_eq_append_getElem hb,h,e]
theorem Fz (a b:List Int) (i:Int) (h0:0≤i) (ha:i<a.length) (hb:i<b.length) (h:a.take i.toNat=b.take i.toNat) (e:rd a i=rd b i):a.take (i+1).toNat=b.take (i+1).toNat:=by
 obtain ⟨n,rfl⟩:∃ n:Nat,i=n:=⟨i.toNat,by omega⟩
 rw [Int.toNat_natCast] at h
 exact IZ a b n (by omega) (by omega) h e
theorem FB (a b:List Int) (hl:a.length=b.length) (h:a.take a.length=b.take a.length):a=b:=by
 rw [List.take_length,hl,List.take_length] at h
 exact h
theorem KQ (a b:List Int) (i:Int) (e:rd a i≠rd b i):a≠b:=fun h=>e (by rw [h])
set_option maxHeartbeats 8000000 in
set_option maxRecDepth 100000 in
theorem slices_Equal.calls (A0:Option Addr) (c0:Nat) (l0:List Int) (A1:Option Addr) (c1:Nat) (l1:List Int) (w:World) (hr0:Kd.C (Kd.int .i64) w A0 l0.length l0) (hr1:Kd.C (Kd.int .i64) w A1 l1.length l1) :
  Calls Try.prog 70 #[.slice A0 l0.length c0,.slice A1 l1.length c1] w fun e w'=>e=.returned (.bool (decide (l0=l1)))∧dH w w':=by
 have hmax:=hr0.2.1
 have HR0:=aA.mk hr0
 have HR1:=aA.mk hr1
 clear hr0 hr1
 obtain ⟨r,hr⟩:∃ r,decide (l0=l1)=r:=⟨_,rfl⟩
 rw [hr]
 have HR:=aA.mk hr
 clear hr
 go_enter Try.func70,Try.ntmps70
 by_cases c:l0.length=l1.length
 ·have c1:((l0.length:Int)==(l1.length:Int))=true:=by rw [beq_iff_eq];omega
  have c2:((l0.length:Int) != (l1.length:Int))=false:=by rw [Vm];omega
  have C:=aA.mk c
  have HM:=aA.mk hmax
  clear c hmax
  go_wp2
  go_loopg [13] l0.length (fun kq v13 w'=>∃ (i:Int),v13=.int .i64 i∧aA (0≤i∧i≤l0.length)∧aA (l0.length-i.toNat≤kq)∧aA (l0.take i.toNat=l1.take i.toNat)∧dH w w')
  case atStart=>exact ⟨0,rfl,⟨⟨by omega,by omega⟩⟩,⟨by omega⟩,⟨rfl⟩,by repeat (first|exact dH.refl _|apply dH.step)⟩
  case round =>
   obtain ⟨i,rfl,HI,HG,HT,⟨m1,rfl⟩⟩:=hrel
   by_cases d:i<(l0.length:Int)
   ·have d0:decide (i<(l0.length:Int))=true:=eH d;have q1:i<(l1.length:Int):=by have:=C.out;omega
    have p0:0≤i:=HI.out.1;obtain ⟨ad,e0,hx0⟩:=Kd.lU HR0.out i p0 d;obtain ⟨ae,e1,hx1⟩:=Kd.lU HR1.out i p0 q1
    cases e0
    cases e1
    have D:=aA.mk d;have hwr:wrap64 (i+1)=i+1:=by have:=HM.out;unfold wrap64;omega
    have W:=aA.mk hwr;clear hwr;replace p0:=eq_true p0;replace d:=eq_true d;replace q1:=eq_true q1
    by_cases f:rd l0 i=rd l1 i
    ·have f0:(rd l0 i==rd l1 i)=true:=beq_iff_eq.2 f;have f1:(rd l0 i != rd l1 i)=false:=bne_eq_false_iff_eq.2 f;have F:=aA.mk f;clear f
     go_wp2
     repeat (go_quiet (fail);try go_wp2)
     go_roundg (l0.length-(i.toNat+1))
     case measure=>have:=HG.out;have:=D.out;have:=HI.out;omega
     case rel=>exact ⟨i+1,by have:=W.out;first|(rw [this];done)|(rw [this,this];done)|(simp [this];done),⟨⟨by have:=HI.out;omega,by have:=D.out;omega⟩⟩,⟨by have:=HI.out;omega⟩,⟨Fz l0 l1 i HI.out.1 D.out (by have:=C.out;have:=D.out;omega) HT.out F.out⟩,by repeat (first|exact dH.refl _|apply dH.step)⟩
    ·have f0:(rd l0 i==rd l1 i)=false:=beq_eq_false_iff_ne.2 f;have f1:(rd l0 i != rd l1 i)=true:=bne_iff_ne.2 f;have F:=aA.mk f;clear f;have hd:decide (l0=l1)=false:=iE (KQ l0 l1 _ F.out);have R:=aA.mk (HR.out.symm.trans hd);clear hd
     go_wp2
     repeat (go_quiet (fail);try go_wp2)
     go_ret
     exact ⟨by have h:=R.out;subst h;first|rfl|(simp;done)|(simp [*];done),by repeat (first|exact dH.refl _|apply dH.step)⟩
   ·have d0:decide (i<(l0.length:Int))=false:=iE d;have e:i.toNat=l0.length:=by have:=HI.out;omega
    have hd:decide (l0=l1)=true:=eH (FB l0 l1 C.out (e ▸ HT.out));have R:=aA.mk (HR.out.symm.trans hd);clear hd;clear d e
    go_wp2
    go_ret
    exact ⟨by have h:=R.out;subst h;first|rfl|(simp;done)|(simp [*];done),by repeat (first|exact dH.refl _|apply dH.step)⟩
 ·have c1:((l0.length:Int)==(l1.length:Int))=false:=by rw [Vo];omega
  have c2:((l0.length:Int) != (l1.length:Int))=true:=by rw [bne_iff_ne];omega
  have C:=aA.mk c
  clear c hmax
  have hd:decide (l0=l1)=false:=iE (fun h=>C.out (by rw [h]))
  have R:=aA.mk (HR.out.symm.trans hd)
  clear hd
  go_wp2
  go_ret
  exact ⟨by have h:=R.out;subst h;first|rfl|(simp;done)|(simp [*];done),by repeat (first|exact dH.refl _|apply dH.step)⟩
def oU (f g:iJ):Bool:=f.f1==g.f1 || (f.f0.toList==g.f0.toList&&decide (f.f2=g.f2))
set_option maxHeartbeats 8000000 in
set_option maxRecDepth 100000 in
theorem same.calls (B:Nat) (f g:iJ) (Af Ag:Option Addr) (cf cg:Nat) (w:World) (hB:B<w.heap.size) (hc0:w.cell? ⟨B,0,none⟩=some (.string f.f0)) (hc1:w.cell? ⟨B,1,none⟩=some (.int .i64 f.f1)) (hc2:w.cell? ⟨B,2,none⟩=some (.slice Af f.f2.length cf))
  (hrf:Kd.C (Kd.int .i64) w Af f.f2.length f.f2) (hrg:Kd.C (Kd.int .i64) w Ag g.f2.length g.f2) :
  Calls Try.prog 69 #[.agg #[.string g.f0,.int .i64 g.f1,.slice Ag g.f2.length cg],.pointer (some ⟨B,0,none⟩)] w fun e w'=>e=.returned (.bool (oU f g))∧Below w.heap.size w w':=by
 have vH:=Try.underlying54
 have hb1:Below w.heap.size w (w.alloc (.cells #[.string g.f0,.int .i64 g.f1,.slice Ag g.f2.length cg] 54)):=(Below.refl _ w).alloc (Nat.le_refl _) _
 have k0:=(hb1.cell (p:=⟨B,0,none⟩) hB).trans hc0
 have k1:=(hb1.cell (p:=⟨B,1,none⟩) hB).trans hc1
 have k2:=(hb1.cell (p:=⟨B,2,none⟩) hB).trans hc2
 have hG:=rY w (.cells #[.string g.f0,.int .i64 g.f1,.slice Ag g.f2.length cg] 54)
 have g0:(w.alloc (.cells #[.string g.f0,.int .i64 g.f1,.slice Ag g.f2.length cg] 54)).cell? ⟨w.heap.size,0,none⟩=some (.string g.f0):=(aJ hG 0).trans rfl
 have g1:(w.alloc (.cells #[.string g.f0,.int .i64 g.f1,.slice Ag g.f2.length cg] 54)).cell? ⟨w.heap.size,1,none⟩=some (.int .i64 g.f1):=(aJ hG 1).trans rfl
 have g2:(w.alloc (.cells #[.string g.f0,.int .i64 g.f1,.slice Ag g.f2.length cg] 54)).cell? ⟨w.heap.size,2,none⟩=some (.slice Ag g.f2.length cg):=(aJ hG 2).trans rfl
 have KR:=Kd.gI hrf hb1
 have hrg1:=Kd.gI hrg hb1
 have eqc:=slices_Equal.calls Af cf f.f2 Ag cg g.f2 _ KR hrg1
 clear hrf hrg hc0 hc1 hc2 hG KR hrg1
 have HB:=aA.mk hb1
 clear hb1
 unfold oU
 obtain ⟨r,hr⟩:∃ r,decide (f.f2=g.f2)=r:=⟨_,rfl⟩
 rw [hr] at eqc ⊢
 clear hr
 have E:=aA.mk eqc
 clear eqc
 by_cases a:f.f1=g.f1
 ·have a0:(f.f1==g.f1)=true:=beq_iff_eq.2 a
  rw [a0,Bool.true_or]
  clear a
  go_enter Try.func69,Try.ntmps69
  go_wp2_with (fail)
  go_ret
  exact ⟨by first|rfl|(simp;done)|(simp [*];done),HB.out⟩
 ·have a0:(f.f1==g.f1)=false:=beq_eq_false_iff_ne.2 a
  rw [a0,Bool.false_or]
  clear a
  by_cases b:f.f0.toList=g.f0.toList
  ·have b0:(f.f0.toList==g.f0.toList)=true:=beq_iff_eq.2 b;rw [b0,Bool.true_and];clear b
   go_enter Try.func69,Try.ntmps69
   go_wp2_with (first|(go_at_call 70;refine (E.out).mono ?_;rintro e w' ⟨rfl,⟨m1,rfl⟩⟩))
   go_ret
   exact ⟨by first|rfl|(simp;done)|(simp [*];done),by repeat (first|exact HB.out|apply gB|apply fZ)⟩
  ·have b0:(f.f0.toList==g.f0.toList)=false:=beq_eq_false_iff_ne.2 b;rw [b0,Bool.false_and];clear b
   go_enter Try.func69,Try.ntmps69
   go_wp2_with (fail)
   go_ret
   exact ⟨by first|rfl|(simp;done)|(simp [*];done),HB.out⟩
set_option maxHeartbeats 8000000 in
set_option maxRecDepth 100000 in
theorem named.calls (B C:Nat) (name:ByteArray) (kinds:List Int) (g:iJ) (Af Ag:Option Addr) (cf cg:Nat) (w:World) (hB:B<w.heap.size) (hC:C<w.heap.size) (hc0:w.cell? ⟨B,0,none⟩=some (.string name)) (hc1:w.cell? ⟨C,0,none⟩=some (.slice Af kinds.length cf))
  (hrf:Kd.C (Kd.int .i64) w Af kinds.length kinds) (hrg:Kd.C (Kd.int .i64) w Ag g.f2.length g.f2) :
  Calls Try.prog 74 #[.agg #[.string g.f0,.int .i64 g.f1,.slice Ag g.f2.length cg],.pointer (some ⟨B,0,none⟩),.pointer (some ⟨C,0,none⟩)] w fun e w'=>e=.returned (.bool (g.f0.toList==name.toList&&decide (g.f2=kinds)))∧Below w.heap.size w w':=by
 have vH:=Try.underlying54
 have hb1:Below w.heap.size w (w.alloc (.cells #[.string g.f0,.int .i64 g.f1,.slice Ag g.f2.length cg] 54)):=(Below.refl _ w).alloc (Nat.le_refl _) _
 have k0:=(hb1.cell (p:=⟨B,0,none⟩) hB).trans hc0
 have k1:=(hb1.cell (p:=⟨C,0,none⟩) hC).trans hc1
 have hG:=rY w (.cells #[.string g.f0,.int .i64 g.f1,.slice Ag g.f2.length cg] 54)
 have g0:(w.alloc (.cells #[.string g.f0,.int .i64 g.f1,.slice Ag g.f2.length cg] 54)).cell? ⟨w.heap.size,0,none⟩=some (.string g.f0):=(aJ hG 0).trans rfl
 have g2:(w.alloc (.cells #[.string g.f0,.int .i64 g.f1,.slice Ag g.f2.length cg] 54)).cell? ⟨w.heap.size,2,none⟩=some (.slice Ag g.f2.length cg):=(aJ hG 2).trans rfl
 have KR:=Kd.gI hrf hb1
 have hrg1:=Kd.gI hrg hb1
 have eqc:=slices_Equal.calls Ag cg g.f2 Af cf kinds _ hrg1 KR
 clear hrf hrg hc0 hc1 hG KR hrg1
 have HB:=aA.mk hb1
 clear hb1
 obtain ⟨r,hr⟩:∃ r,decide (g.f2=kinds)=r:=⟨_,rfl⟩
 rw [hr] at eqc ⊢
 clear hr
 have E:=aA.mk eqc
 clear eqc
 by_cases b:g.f0.toList=name.toList
 ·have b0:(g.f0.toList==name.toList)=true:=beq_iff_eq.2 b
  rw [b0,Bool.true_and]
  clear b
  go_enter Try.func74,Try.ntmps74
  go_wp2_with (first|(go_at_call 70;refine (E.out).mono ?_;rintro e w' ⟨rfl,⟨m1,rfl⟩⟩))
  go_ret
  exact ⟨by first|rfl|(simp;done)|(simp [*];done),by repeat (first|exact HB.out|apply gB|apply fZ)⟩
 ·have b0:(g.f0.toList==name.toList)=false:=beq_eq_false_iff_ne.2 b
  rw [b0,Bool.false_and]
  clear b
  go_enter Try.func74,Try.ntmps74
  go_wp2_with (fail)
  go_ret
  exact ⟨by first|rfl|(simp;done)|(simp [*];done),HB.out⟩
end Go.Proofs.Ytipjpdiianopcaa.Cv
namespace Go.Proofs.Ytipjpdiianopcaa.Cv
open Go.RowKit Go.Proofs.YtipjpdiianopcaaW.aZ Go.Proofs.YtipjpdiianopcaaW.dQ Go.Proofs.YtipjpdiianopcaaW.gW Go.Proofs.Ytipjpdiianopcaa.A
set_option linter.unusedVariables false
set_option linter.unusedSimpArgs false
def xY (p:iJ→Bool) (l:List iJ):Int:=match l.findIdx? p with|some i=>(i:Int)|none=>-1
theorem sD (l:List iJ) (i:Int) (h0:0≤i) (h:i<(l.length:Int)):aG l i=l[i.toNat]'(by omega):=by
 unfold aG
 rw [List.getD_eq_getElem?_getD,Eb (by omega)]
 rfl
theorem FC (l:List iJ) (i:Int) (h0:0≤i) (h:i<(l.length:Int)):aG l i ∈ l:=by
 rw [sD l i h0 h]
 exact List.getElem_mem _
theorem Ov (p:iJ→Bool) (l:List iJ) (i:Int) (h0:0≤i) (h:i<(l.length:Int)) (hp:p (aG l i)=true) (hn:∀ j:Nat,(j:Int)<i→p (aG l j)=false):xY p l=i:=by
 have e:l.findIdx? p=some i.toNat:=by
  rw [List.findIdx?_eq_some_iff_getElem]
  refine ⟨by omega,?_,fun j hj=>?_⟩
  ·rw [← sD l i h0 h];exact hp
  ·have:=hn j (by omega);rw [sD l (j:Int) (by omega) (by omega)] at this
   simpa using this
 unfold xY
 rw [e]
 show ((i.toNat:Nat):Int)=i
 omega
theorem KT (p:iJ→Bool) (l:List iJ) (hn:∀ j:Nat,(j:Int)<(l.length:Int)→p (aG l j)=false):xY p l=-1:=by
 have e:l.findIdx? p=none:=by
  rw [List.findIdx?_eq_none_iff]
  intro x hx
  obtain ⟨j,hj,rfl⟩:=List.getElem_of_mem hx
  have:=hn j (by omega)
  rw [sD l (j:Int) (by omega) (by omega)] at this
  exact this
 unfold xY
 rw [e]
theorem Ox (p:iJ→Bool) (l:List iJ):decide (xY p l≥0)=l.any p:=by
 unfold xY
 cases e:l.findIdx? p with
 | none =>
  rw [List.findIdx?_eq_none_iff] at e
  have:l.any p=false:=by
   rw [List.any_eq_false];intro x hx;rw [e x hx]
   simp
  rw [this]
  rfl
 | some i =>
  obtain ⟨h1,h2,_⟩:=List.findIdx?_eq_some_iff_getElem.1 e
  have:l.any p=true:=List.any_eq_true.2 ⟨_,List.getElem_mem h1,h2⟩
  rw [this]
  exact eH (by show (0:Int)≤(i:Int);omega)
def Io (g:Nat) (lb:Array Value) (p:iJ→Bool) (l:List iJ) (w:World):Prop :=
 ∀ (W:World) (x:iJ) (Ag:Option Addr) (cg:Nat),Below w.heap.size w W→x ∈ l→Kd.C (Kd.int .i64) W Ag x.f2.length x.f2 →
  Calls Try.prog g (#[.agg #[.string x.f0,.int .i64 x.f1,.slice Ag x.f2.length cg]] ++ lb) W fun e w'=>e=.returned (.bool (p x))∧Below W.heap.size W w'
set_option maxHeartbeats 1000000 in
set_option maxRecDepth 100000 in
theorem IndexFunc.calls (g:Nat) (lb:Array Value) (p:iJ→Bool) (eg:∀ args w,(callFunc g args).run Try.prog w=.ok (.enter g args) w) (A0:Option Addr) (c0:Nat) (l0:List iJ) (w:World) (hr0:Kd.C rC w A0 l0.length l0) (hp:Io g lb p l0 w) :
  Calls Try.prog 73 #[.slice A0 l0.length c0,.func (.func g) #[] lb] w fun e w'=>e=.returned (.int .i64 (xY p l0))∧Below w.heap.size w w':=by
 have vH:=Try.underlying54
 have HM:=aA.mk hr0.2.1
 have HR0:=aA.mk hr0
 have HP:=aA.mk hp
 clear hr0 hp
 obtain ⟨r,hr⟩:∃ r,xY p l0=r:=⟨_,rfl⟩
 rw [hr]
 have R:=aA.mk hr
 clear hr
 go_enter Try.func73,Try.ntmps73
 go_wp2_with (fail)
 go_loopg [8] l0.length (fun kq v8 w'=>∃ (i:Int),v8=.int .i64 i∧aA (0≤i∧i≤l0.length)∧aA (l0.length-i.toNat≤kq)∧aA (∀ j:Nat,(j:Int)<i→p (aG l0 j)=false)∧aA (Below w.heap.size w w'))
 case atStart=>exact ⟨0,rfl,⟨⟨by omega,by omega⟩⟩,⟨by omega⟩,⟨fun j h=>by omega⟩,⟨Below.refl _ _⟩⟩
 case round =>
  obtain ⟨i,rfl,HI,HG,HT,HB⟩:=hrel
  by_cases d:i<(l0.length:Int)
  ·have d0:decide (i<(l0.length:Int))=true:=eH d;have p0:0≤i:=HI.out.1;obtain ⟨ad,A2,c2,e0,hx0,hx1,hx2,hl2,hi2⟩:=lC (Kd.gI HR0.out HB.out) i p0 d
   cases e0
   have hcall:=HP.out wr (aG l0 i) A2 c2 HB.out (FC l0 i p0 d) hi2;have HC:=aA.mk hcall;clear hcall hl2 hi2;have D:=aA.mk d;have hwr:wrap64 (i+1)=i+1:=by have:=HM.out;unfold wrap64;omega
   have W:=aA.mk hwr;clear hwr;replace p0:=eq_true p0;replace d:=eq_true d
   cases f:p (aG l0 i) with
   | true =>
    have F:=aA.mk f;rw [f] at HC;clear f
    go_wp2_with (fail)
    refine (HC.out).mono ?_;rintro e w' ⟨rfl,hb'⟩;have HB2:=aA.mk hb';clear hb'
    go_wp2_with (fail)
    go_ret
    exact ⟨by have h:=R.out;rw [Ov p l0 i HI.out.1 D.out F.out HT.out] at h;subst h;first|rfl|(simp;done)|(simp [*];done),HB.out.trans (HB2.out.mono HB.out.size)⟩
   | false =>
    have F:=aA.mk f;rw [f] at HC;clear f
    go_wp2_with (fail)
    refine (HC.out).mono ?_;rintro e w' ⟨rfl,hb'⟩;have HB2:=aA.mk hb';clear hb'
    go_wp2_with (fail)
    go_roundg (l0.length-(i.toNat+1))
    case measure=>have:=HG.out;have:=D.out;have:=HI.out;omega
    case rel=>exact ⟨i+1,by have:=W.out;first|(rw [this];done)|(rw [this,this];done)|(simp [this];done),⟨⟨by have:=HI.out;omega,by have:=D.out;omega⟩⟩,⟨by have:=HI.out;omega⟩,⟨fun j hj=>by
     by_cases e:(j:Int)=i
     ·rw [e];exact F.out
     ·exact HT.out j (by omega)⟩,⟨HB.out.trans (HB2.out.mono HB.out.size)⟩⟩
  ·have d0:decide (i<(l0.length:Int))=false:=iE d;have e:i=(l0.length:Int):=by have:=HI.out;omega
   have hd:=KT p l0 (e ▸ HT.out);have R2:=aA.mk (R.out.symm.trans hd);clear d e hd
   go_wp2_with (fail)
   go_ret
   exact ⟨by have h:=R2.out;subst h;first|rfl|(simp;done)|(simp [*];done),HB.out⟩
set_option maxHeartbeats 1000000 in
set_option maxRecDepth 100000 in
theorem ContainsFunc.calls (g:Nat) (lb:Array Value) (p:iJ→Bool) (eg:∀ args w,(callFunc g args).run Try.prog w=.ok (.enter g args) w) (A0:Option Addr) (c0:Nat) (l0:List iJ) (w:World) (hr0:Kd.C rC w A0 l0.length l0) (hp:Io g lb p l0 w) :
  Calls Try.prog 71 #[.slice A0 l0.length c0,.func (.func g) #[] lb] w fun e w'=>e=.returned (.bool (l0.any p))∧Below w.heap.size w w':=by
 have hcall:=IndexFunc.calls g lb p eg A0 c0 l0 w hr0 hp
 rw [← Ox p l0]
 generalize xY p l0=r at hcall ⊢
 have HC:=aA.mk hcall
 clear hcall hr0 hp
 by_cases d:r≥0
 ·have d0:decide (r≥0)=true:=eH d
  have d1:decide (0≤r)=true:=eH d
  rw [d0]
  clear d
  go_enter Try.func71,Try.ntmps71
  go_wp2_with (first|(go_at_call 73;refine (HC.out).mono ?_;rintro e w' ⟨rfl,hb'⟩;have HB2:=aA.mk hb';clear hb'))
  go_ret
  exact ⟨by first|rfl|(simp;done)|(simp [*];done),HB2.out⟩
 ·have d0:decide (r≥0)=false:=iE d
  have d1:decide (0≤r)=false:=iE d
  rw [d0]
  clear d
  go_enter Try.func71,Try.ntmps71
  go_wp2_with (first|(go_at_call 73;refine (HC.out).mono ?_;rintro e w' ⟨rfl,hb'⟩;have HB2:=aA.mk hb';clear hb'))
  go_ret
  exact ⟨by first|rfl|(simp;done)|(simp [*];done),HB2.out⟩
end Go.Proofs.Ytipjpdiianopcaa.Cv
namespace Go.Proofs.Ytipjpdiianopcaa.Cv
open Go.RowKit Go.Proofs.YtipjpdiianopcaaW.aZ Go.Proofs.YtipjpdiianopcaaW.dQ Go.Proofs.YtipjpdiianopcaaW.gW Go.Proofs.Ytipjpdiianopcaa.A
attribute [local go_sem] jY jZ kY kZ jD jE kC kD
set_option linter.unusedVariables false
set_option linter.unusedSimpArgs false
def dP.l0:Nat→List iJ→Int→Option (Int × Int)
 | 0,_,_=>none
 | k+1,l0,i=>if i<(l0.length:Int) then ((dK.f k (aG l0 i).f0 (aG l0 i).f1 (aG l0 i).f2).bind fun t=>(if t=0 then (if (l0.take i.toNat).any (oU (aG l0 i))=true then (some (7,i)) else (dP.l0 k l0 (wrap64 (i+1)))) else (some (t,i)))) else (some (0,0))
def dP.f (k:Nat) (l0:List iJ):Option (Int × Int):=if (l0.length:Int)>100 then some (2,-1) else dP.l0 k l0 0
theorem dP.iW:∀ k,(∀ y0 y1,eG (dP.l0 k y0 y1) (dP.l0 (k+1) y0 y1))
 | 0=>fun _ _ r h=>by simp [dP.l0] at h
 | k+1=>by
  have lZ:=dP.iW k
  intro y0 y1
  unfold dP.l0
  repeat' first
   | (with_reducible exact lZ _ _)
   | (with_reducible exact dK.mono _ _ _ _)
   | (with_reducible exact eG.refl _)
   | (with_reducible refine eG.ite ?_ ?_)
   | (with_reducible refine eG.bind ?_ (fun _=>?_))
   | exact lZ _ _
   | exact dK.mono _ _ _ _
   | refine eG.ite ?_ ?_
   | refine eG.bind ?_ (fun _=>?_)
theorem dP.mono:∀ a0 k,eG (dP.f k a0) (dP.f (k+1) a0):=by
 intro a0 k
 have lZ:=dP.iW k
 unfold dP.f
 repeat' first
   | (with_reducible exact lZ _ _)
   | (with_reducible exact eG.refl _)
   | (with_reducible refine eG.ite ?_ ?_)
   | exact lZ _ _
theorem wH {P : Program} {f : FuncId} {fn : Func} {c : Code} (hf : P.funcs[f]? = some fn) (hname : (fn.name == "runtime.NumGoroutine") = false) (hb : fn.body = some c) : ∀ args w, (callFunc f args).run P w = .ok (.enter f args) w := by
 intro args w
 have h1 : fn.name ≠ "runtime.NumGoroutine" := by simpa using hname
 simp [callFunc,hf,h1,hb,mark]
theorem uK {w W:World} {f:iJ} {A2:Option Addr} {c2 g4:Nat} {l:List iJ} (hr:Kd.C (Kd.int .i64) w A2 f.f2.length f.f2) (hb:Below w.heap.size w W) (hk:W.heap[g4]?=some (.cells #[.string f.f0,.int .i64 f.f1,.slice A2 f.f2.length c2] 54 (0,0))):Io 69 #[.pointer (some ⟨g4,0,none⟩)] (oU f) l W:=by
 intro V x Ag cg hV hx hg
 have hlt:g4<W.heap.size:=gU hk
 have hk':=bJ hk hV
 exact same.calls g4 f x A2 Ag c2 cg V (Nat.lt_of_lt_of_le hlt hV.size) ((aJ hk' 0).trans rfl) ((aJ hk' 1).trans rfl) ((aJ hk' 2).trans rfl) (Kd.gI (Kd.gI hr hb) hV) hg
set_option maxHeartbeats 1000000 in
set_option maxRecDepth 100000 in
theorem dP.calls (k:Nat) (A0:Option Addr) (c0:Nat) (l0:List (iJ)) (r1:Int) (r2:Int) (w:World) (hr0:Kd.C rC w A0 l0.length l0) (hc0:l0.length≤c0) (h:dP.f k l0=some (r1,r2)) :
  Calls Try.prog 35 #[.slice A0 l0.length c0] w fun e w'=>e=.returned (.agg #[.int .i64 r1,.int .i64 r2])∧Below w.heap.size w w':=by
 have Eu:=Try.underlying27
 have vH:=Try.underlying54
 have hmf:∀ (fn:Fn) (first cap:Array Value) (w:World),(Instr.makeFunc fn first cap).run Try.prog w=.ok (.func fn first cap) w:=fun _ _ _ _=>rfl
 have eg:∀ args w,(callFunc 69 args).run Try.prog w=.ok (.enter 69 args) w:=wH Try.func69 aV rfl
 have HR0:=aA.mk hr0
 have PE:=aA.mk hc0
 clear hr0 hc0
 have HB:=aA.mk (Below.refl w.heap.size w)
 unfold dP.f at h
 by_cases c:(l0.length:Int)>100
 ·rw [if_pos c] at h
  have c0b:decide (100<(l0.length:Int))=true:=eH c
  have c1b:decide (100<l0.length)=true:=eH (by omega)
  clear c
  simp only [Option.some.injEq,Prod.mk.injEq] at h
  obtain ⟨rfl,rfl⟩:=h
  go_enter Try.func35,Try.ntmps35
  go_wp2_with (first|((with_reducible refine bC (N:=2) rfl ?_);refine eX ?hg (N:=2) ?hd (cs:=#[.int .i64 0,.int .i64 0]) (t:=27) ?hr ?_;(case hd=>rfl);(case hg=>rfl);(case hr=>first|(go_simp;done)|(go_simp;rfl));intro gb hg w4 hbox hb;have bU:=aA.mk (aN (bM HB.out) hb);have bV:=aA.mk hbox;have bZ:=aA.mk ((by rw [hg];exact (aQ (bM HB.out))):w.heap.size≤gb);clear HB;have HB:=bU;have BK:=bV;have GE:=bZ;clear bU bV bZ;clear hb hbox hg;have FD:w4.cell? ⟨gb,0,none⟩=some (.int .i64 0):=(aJ BK.out 0).trans rfl;have FH:w4.cell? ⟨gb,1,none⟩=some (.int .i64 0):=(aJ BK.out 1).trans rfl;have FI:=aI BK.out 0;have hfz1:=aI BK.out 1))
  refine bodyPost_ret (results_cell_row rfl _ _ gb 27 #[.int .i64 2,.int .i64 (-1)] (0,0) _ rfl (by refine aU ?_;refine bH (cs:=#[.int .i64 2,.int .i64 0]) ?_ 1 _ rfl;refine aU ?_;refine bH (cs:=#[.int .i64 0,.int .i64 0]) ?_ 0 _ rfl;refine aU ?_;exact BK.out) Try.underlying27 rfl aV) rfl ?_
  exact ⟨by first|rfl|(simp;done)|(simp [*];done),dA HB.out GE.out⟩
 ·rw [if_neg c] at h
  have c0b:decide (100<(l0.length:Int))=false:=iE c
  have c1b:decide (100<l0.length)=false:=iE (by omega)
  have CL:=aA.mk c
  clear c
  have H':=aA.mk h
  clear h
  go_enter Try.func35,Try.ntmps35
  go_wp2_with (first|((with_reducible refine bC (N:=2) rfl ?_);refine eX ?hg (N:=2) ?hd (cs:=#[.int .i64 0,.int .i64 0]) (t:=27) ?hr ?_;(case hd=>rfl);(case hg=>rfl);(case hr=>first|(go_simp;done)|(go_simp;rfl));intro gb hg w4 hbox hb;have bU:=aA.mk (aN (bM HB.out) hb);have bV:=aA.mk hbox;have bZ:=aA.mk ((by rw [hg];exact (aQ (bM HB.out))):w.heap.size≤gb);clear HB;have HB:=bU;have BK:=bV;have GE:=bZ;clear bU bV bZ;clear hb hbox hg;have FD:w4.cell? ⟨gb,0,none⟩=some (.int .i64 0):=(aJ BK.out 0).trans rfl;have FH:w4.cell? ⟨gb,1,none⟩=some (.int .i64 0):=(aJ BK.out 1).trans rfl;have FI:=aI BK.out 0;have hfz1:=aI BK.out 1))
  go_loopg [13] k (fun kq v13 w'=>∃ (i a b:Int),v13=.int .i64 i∧aA (0≤i)∧aA (dP.l0 kq l0 i=some (r1,r2))∧aA (kq≤k)∧aA (w'.heap[gb]?=some (.cells #[.int .i64 a,.int .i64 b] 27 (0,0)))∧aA (Below w.heap.size w w'))
  case atStart=>exact ⟨0,0,0,rfl,⟨Int.le_refl _⟩,H',⟨Nat.le_refl _⟩,⟨by refine aU ?_;exact BK.out⟩,⟨dA HB.out GE.out⟩⟩
  case round =>
   clear H' HB BK;obtain ⟨i,a,b,rfl,HI,HA,rE,BK,HB⟩:=hrel
   cases gk with
   | zero=>exact absurd HA.out (by simp [dP.l0])
   | succ k1 =>
    have H:=HA.out;clear HA;simp only [dP.l0] at H
    by_cases d:i<(l0.length:Int)
    ·rw [if_pos d] at H;have d0:decide (i<(l0.length:Int))=true:=eH d;have p0:0≤i:=HI.out;obtain ⟨ad,A2,c2,e0,hx0,hx1,hx2,hl2,hi2⟩:=lC HR0.out i p0 d
     cases e0
     replace hx0:=(HB.out.cell (dJ w _ hx0)).trans hx0;replace hx1:=(HB.out.cell (dJ w _ hx1)).trans hx1;replace hx2:=(HB.out.cell (dJ w _ hx2)).trans hx2;have HR2:=aA.mk hi2;have HC2:=aA.mk hl2;clear hi2 hl2;have HT:=aA.mk (show i.toNat≤l0.length by omega);have N1:=aA.mk (show (l0.take i.toNat).length=i.toNat by rw [KU];omega);have D:=aA.mk d;have hwr:wrap64 (i+1)=i+1:=by have:=CL.out;unfold wrap64;omega
     have WR:=aA.mk hwr;clear hwr;obtain ⟨i54,aCa,_,_,_⟩:=info_parts Et;have cut:=Si (P:=Try.prog) 47 54 .i64 Try.underlying47 aCa (some ad) l0.length c0 i p0 (by omega) PE.out;replace p0:=eq_true p0;replace d:=eq_true d;replace H:=Option.bind_eq_some_iff.mp H;obtain ⟨t,Dy,H⟩:=H;have A1:=aA.mk Dy;clear Dy
     by_cases e:t=0
     ·rw [if_pos e] at H;subst e
      by_cases f:(l0.take i.toNat).any (oU (aG l0 i))=true
      ·rw [if_pos f] at H;simp only [Option.some.injEq,Prod.mk.injEq] at H;obtain ⟨rfl,rfl⟩:=H;have F:=aA.mk f;clear f
       go_wp2_with (first|((with_reducible refine bC (N:=4) rfl ?_);refine eX ?hg (N:=4) ?hd (cs:=#[.string (⟨#[]⟩:ByteArray),.int .i64 0,.slice none 0 0]) (t:=54) ?hr ?_;(case hd=>rfl);(case hg=>rfl);(case hr=>first|(go_simp;done)|(go_simp;rfl));intro g4 hg w16 hbox hb;have bU:=aA.mk (bJ (g:=gb) (o:=.cells #[.int .i64 a,.int .i64 b] 27 (0,0)) (aU BK.out) hb);have bV:=aA.mk (aN (dA HB.out GE.out) hb);have bZ:=aA.mk hbox;have jF:=aA.mk ((by rw [hg];exact (aQ (dA HB.out GE.out))):w.heap.size≤g4);have mM:=aA.mk ((by rw [hg];exact Nat.ne_of_lt (gU (g:=gb) (o:=.cells #[.int .i64 a,.int .i64 b] 27 (0,0)) (aU BK.out)):gb≠g4));have sF:=aA.mk mM.out.symm;clear BK HB;have BK:=bU;have HB:=bV;have oO:=bZ;have uM:=jF;have NB:=mM;have Vp:=sF;clear bU bV bZ jF mM sF;clear hb hbox hg;have hnb:=Vp.out;have hnc:=NB.out;have hd0:w16.cell? ⟨g4,0,none⟩=some (.string (⟨#[]⟩:ByteArray)):=(aJ oO.out 0).trans rfl;have hd1:w16.cell? ⟨g4,1,none⟩=some (.int .i64 0):=(aJ oO.out 1).trans rfl;have hd2:w16.cell? ⟨g4,2,none⟩=some (.slice none 0 0):=(aJ oO.out 2).trans rfl;have hg0:=aI oO.out 0;have hg1:=aI oO.out 1;have hg2:=aI oO.out 2)|(go_at_call 68;refine (dK.calls k1 (aG l0 i).f0 (aG l0 i).f1 A2 c2 (aG l0 i).f2 _ _ (Kd.gI HR2.out (fJ HB.out GE.out uM.out)) HC2.out A1.out).mono ?_;rintro e Jk ⟨rfl,hb⟩;have bU:=aA.mk (bJ (g:=gb) (o:=.cells #[.int .i64 a,.int .i64 b] 27 (0,0)) (by refine aU ?_;refine fO ?_ NB.out _;refine aU ?_;refine fO ?_ NB.out _;refine aU ?_;refine fO ?_ NB.out _;refine aU ?_;exact BK.out) hb);have bV:=aA.mk (bJ (g:=g4) (o:=.cells #[.string (aG l0 i).f0,.int .i64 (aG l0 i).f1,.slice A2 (aG l0 i).f2.length c2] 54 (0,0)) (by refine aU ?_;refine bH (cs:=#[.string (aG l0 i).f0,.int .i64 (aG l0 i).f1,.slice none 0 0]) ?_ 2 _ rfl;refine aU ?_;refine bH (cs:=#[.string (aG l0 i).f0,.int .i64 0,.slice none 0 0]) ?_ 1 _ rfl;refine aU ?_;refine bH (cs:=#[.string (⟨#[]⟩:ByteArray),.int .i64 0,.slice none 0 0]) ?_ 0 _ rfl;refine aU ?_;exact oO.out) hb);have bZ:=aA.mk (aN (fJ HB.out GE.out uM.out) hb);clear BK oO HB;have BK:=bU;have oO:=bV;have HB:=bZ;clear bU bV bZ;clear hb;have FD:Jk.cell? ⟨gb,0,none⟩=some (.int .i64 a):=(aJ BK.out 0).trans rfl;have FH:Jk.cell? ⟨gb,1,none⟩=some (.int .i64 b):=(aJ BK.out 1).trans rfl;have FI:=aI BK.out 0;have hfz1:=aI BK.out 1)|(go_at_call 71;have hcc:=ContainsFunc.calls 69 #[.pointer (some ⟨g4,0,none⟩)] (oU (aG l0 i)) eg (some ad) c0 (l0.take i.toNat) _ (Kd.gI (Kd.KW HR0.out HT.out) HB.out) (uK HR2.out HB.out oO.out);rw [N1.out,F.out] at hcc;refine hcc.mono ?_;clear hcc;rintro e JM ⟨rfl,hb⟩;have bU:=aA.mk (bJ (g:=gb) (o:=.cells #[.int .i64 a,.int .i64 b] 27 (0,0)) (aU BK.out) hb);have bZ:=aA.mk (aN (fJ HB.out GE.out uM.out) hb);clear BK HB;have BK:=bU;have HB:=bZ;clear bU bZ;clear hb;have FD:JM.cell? ⟨gb,0,none⟩=some (.int .i64 a):=(aJ BK.out 0).trans rfl;have FH:JM.cell? ⟨gb,1,none⟩=some (.int .i64 b):=(aJ BK.out 1).trans rfl;have FI:=aI BK.out 0;have hfz1:=aI BK.out 1))
       refine bodyPost_ret (results_cell_row rfl _ _ gb 27 #[.int .i64 7,.int .i64 i] (0,0) _ rfl (by refine aU ?_;refine bH (cs:=#[.int .i64 7,.int .i64 b]) ?_ 1 _ rfl;refine aU ?_;refine bH (cs:=#[.int .i64 a,.int .i64 b]) ?_ 0 _ rfl;refine aU ?_;exact BK.out) Try.underlying27 rfl aV) rfl ?_;exact ⟨by first|rfl|(simp;done)|(simp [*];done),fJ HB.out GE.out uM.out⟩
      ·rw [if_neg f] at H;have F:=aA.mk (Bool.eq_false_iff.2 f);clear f;have H':=aA.mk H;clear H
       go_wp2_with (first|((with_reducible refine bC (N:=4) rfl ?_);refine eX ?hg (N:=4) ?hd (cs:=#[.string (⟨#[]⟩:ByteArray),.int .i64 0,.slice none 0 0]) (t:=54) ?hr ?_;(case hd=>rfl);(case hg=>rfl);(case hr=>first|(go_simp;done)|(go_simp;rfl));intro g4 hg w16 hbox hb;have bU:=aA.mk (bJ (g:=gb) (o:=.cells #[.int .i64 a,.int .i64 b] 27 (0,0)) (aU BK.out) hb);have bV:=aA.mk (aN (dA HB.out GE.out) hb);have bZ:=aA.mk hbox;have jF:=aA.mk ((by rw [hg];exact (aQ (dA HB.out GE.out))):w.heap.size≤g4);have mM:=aA.mk ((by rw [hg];exact Nat.ne_of_lt (gU (g:=gb) (o:=.cells #[.int .i64 a,.int .i64 b] 27 (0,0)) (aU BK.out)):gb≠g4));have sF:=aA.mk mM.out.symm;clear BK HB;have BK:=bU;have HB:=bV;have oO:=bZ;have uM:=jF;have NB:=mM;have Vp:=sF;clear bU bV bZ jF mM sF;clear hb hbox hg;have hnb:=Vp.out;have hnc:=NB.out;have hd0:w16.cell? ⟨g4,0,none⟩=some (.string (⟨#[]⟩:ByteArray)):=(aJ oO.out 0).trans rfl;have hd1:w16.cell? ⟨g4,1,none⟩=some (.int .i64 0):=(aJ oO.out 1).trans rfl;have hd2:w16.cell? ⟨g4,2,none⟩=some (.slice none 0 0):=(aJ oO.out 2).trans rfl;have hg0:=aI oO.out 0;have hg1:=aI oO.out 1;have hg2:=aI oO.out 2)|(go_at_call 68;refine (dK.calls k1 (aG l0 i).f0 (aG l0 i).f1 A2 c2 (aG l0 i).f2 _ _ (Kd.gI HR2.out (fJ HB.out GE.out uM.out)) HC2.out A1.out).mono ?_;rintro e Jk ⟨rfl,hb⟩;have bU:=aA.mk (bJ (g:=gb) (o:=.cells #[.int .i64 a,.int .i64 b] 27 (0,0)) (by refine aU ?_;refine fO ?_ NB.out _;refine aU ?_;refine fO ?_ NB.out _;refine aU ?_;refine fO ?_ NB.out _;refine aU ?_;exact BK.out) hb);have bV:=aA.mk (bJ (g:=g4) (o:=.cells #[.string (aG l0 i).f0,.int .i64 (aG l0 i).f1,.slice A2 (aG l0 i).f2.length c2] 54 (0,0)) (by refine aU ?_;refine bH (cs:=#[.string (aG l0 i).f0,.int .i64 (aG l0 i).f1,.slice none 0 0]) ?_ 2 _ rfl;refine aU ?_;refine bH (cs:=#[.string (aG l0 i).f0,.int .i64 0,.slice none 0 0]) ?_ 1 _ rfl;refine aU ?_;refine bH (cs:=#[.string (⟨#[]⟩:ByteArray),.int .i64 0,.slice none 0 0]) ?_ 0 _ rfl;refine aU ?_;exact oO.out) hb);have bZ:=aA.mk (aN (fJ HB.out GE.out uM.out) hb);clear BK oO HB;have BK:=bU;have oO:=bV;have HB:=bZ;clear bU bV bZ;clear hb;have FD:Jk.cell? ⟨gb,0,none⟩=some (.int .i64 a):=(aJ BK.out 0).trans rfl;have FH:Jk.cell? ⟨gb,1,none⟩=some (.int .i64 b):=(aJ BK.out 1).trans rfl;have FI:=aI BK.out 0;have hfz1:=aI BK.out 1)|(go_at_call 71;have hcc:=ContainsFunc.calls 69 #[.pointer (some ⟨g4,0,none⟩)] (oU (aG l0 i)) eg (some ad) c0 (l0.take i.toNat) _ (Kd.gI (Kd.KW HR0.out HT.out) HB.out) (uK HR2.out HB.out oO.out);rw [N1.out,F.out] at hcc;refine hcc.mono ?_;clear hcc;rintro e JM ⟨rfl,hb⟩;have bU:=aA.mk (bJ (g:=gb) (o:=.cells #[.int .i64 a,.int .i64 b] 27 (0,0)) (aU BK.out) hb);have bZ:=aA.mk (aN (fJ HB.out GE.out uM.out) hb);clear BK HB;have BK:=bU;have HB:=bZ;clear bU bZ;clear hb;have FD:JM.cell? ⟨gb,0,none⟩=some (.int .i64 a):=(aJ BK.out 0).trans rfl;have FH:JM.cell? ⟨gb,1,none⟩=some (.int .i64 b):=(aJ BK.out 1).trans rfl;have FI:=aI BK.out 0;have hfz1:=aI BK.out 1))
       go_roundg k1
       case measure=>have:=rE.out;omega
       case rel=>exact ⟨wrap64 (i+1),a,b,by first|rfl|(simp;done),⟨by rw [WR.out];have:=HI.out;omega⟩,H',⟨by have:=rE.out;omega⟩,⟨by refine aU ?_;exact BK.out⟩,⟨fJ HB.out GE.out uM.out⟩⟩
     ·rw [if_neg e] at H;have e0:(t==0)=false:=beq_eq_false_iff_ne.2 e;have e1:(t != 0)=true:=bne_iff_ne.2 e;clear e;simp only [Option.some.injEq,Prod.mk.injEq] at H;obtain ⟨rfl,rfl⟩:=H
      go_wp2_with (first|((with_reducible refine bC (N:=4) rfl ?_);refine eX ?hg (N:=4) ?hd (cs:=#[.string (⟨#[]⟩:ByteArray),.int .i64 0,.slice none 0 0]) (t:=54) ?hr ?_;(case hd=>rfl);(case hg=>rfl);(case hr=>first|(go_simp;done)|(go_simp;rfl));intro g4 hg w16 hbox hb;have bU:=aA.mk (bJ (g:=gb) (o:=.cells #[.int .i64 a,.int .i64 b] 27 (0,0)) (aU BK.out) hb);have bV:=aA.mk (aN (dA HB.out GE.out) hb);have bZ:=aA.mk hbox;have jF:=aA.mk ((by rw [hg];exact (aQ (dA HB.out GE.out))):w.heap.size≤g4);have mM:=aA.mk ((by rw [hg];exact Nat.ne_of_lt (gU (g:=gb) (o:=.cells #[.int .i64 a,.int .i64 b] 27 (0,0)) (aU BK.out)):gb≠g4));have sF:=aA.mk mM.out.symm;clear BK HB;have BK:=bU;have HB:=bV;have oO:=bZ;have uM:=jF;have NB:=mM;have Vp:=sF;clear bU bV bZ jF mM sF;clear hb hbox hg;have hnb:=Vp.out;have hnc:=NB.out;have hd0:w16.cell? ⟨g4,0,none⟩=some (.string (⟨#[]⟩:ByteArray)):=(aJ oO.out 0).trans rfl;have hd1:w16.cell? ⟨g4,1,none⟩=some (.int .i64 0):=(aJ oO.out 1).trans rfl;have hd2:w16.cell? ⟨g4,2,none⟩=some (.slice none 0 0):=(aJ oO.out 2).trans rfl;have hg0:=aI oO.out 0;have hg1:=aI oO.out 1;have hg2:=aI oO.out 2)|(go_at_call 68;refine (dK.calls k1 (aG l0 i).f0 (aG l0 i).f1 A2 c2 (aG l0 i).f2 _ _ (Kd.gI HR2.out (fJ HB.out GE.out uM.out)) HC2.out A1.out).mono ?_;rintro e Jk ⟨rfl,hb⟩;have bU:=aA.mk (bJ (g:=gb) (o:=.cells #[.int .i64 a,.int .i64 b] 27 (0,0)) (by refine aU ?_;refine fO ?_ NB.out _;refine aU ?_;refine fO ?_ NB.out _;refine aU ?_;refine fO ?_ NB.out _;refine aU ?_;exact BK.out) hb);have bV:=aA.mk (bJ (g:=g4) (o:=.cells #[.string (aG l0 i).f0,.int .i64 (aG l0 i).f1,.slice A2 (aG l0 i).f2.length c2] 54 (0,0)) (by refine aU ?_;refine bH (cs:=#[.string (aG l0 i).f0,.int .i64 (aG l0 i).f1,.slice none 0 0]) ?_ 2 _ rfl;refine aU ?_;refine bH (cs:=#[.string (aG l0 i).f0,.int .i64 0,.slice none 0 0]) ?_ 1 _ rfl;refine aU ?_;refine bH (cs:=#[.string (⟨#[]⟩:ByteArray),.int .i64 0,.slice none 0 0]) ?_ 0 _ rfl;refine aU ?_;exact oO.out) hb);have bZ:=aA.mk (aN (fJ HB.out GE.out uM.out) hb);clear BK oO HB;have BK:=bU;have oO:=bV;have HB:=bZ;clear bU bV bZ;clear hb;have FD:Jk.cell? ⟨gb,0,none⟩=some (.int .i64 a):=(aJ BK.out 0).trans rfl;have FH:Jk.cell? ⟨gb,1,none⟩=some (.int .i64 b):=(aJ BK.out 1).trans rfl;have FI:=aI BK.out 0;have hfz1:=aI BK.out 1))
      refine bodyPost_ret (results_cell_row rfl _ _ gb 27 #[.int .i64 t,.int .i64 i] (0,0) _ rfl (by refine aU ?_;refine bH (cs:=#[.int .i64 t,.int .i64 b]) ?_ 1 _ rfl;refine aU ?_;refine bH (cs:=#[.int .i64 a,.int .i64 b]) ?_ 0 _ rfl;refine aU ?_;exact BK.out) Try.underlying27 rfl aV) rfl ?_;exact ⟨by first|rfl|(simp;done)|(simp [*];done),fJ HB.out GE.out uM.out⟩
    ·rw [if_neg d] at H;have d0:decide (i<(l0.length:Int))=false:=iE d;clear d;simp only [Option.some.injEq,Prod.mk.injEq] at H;obtain ⟨rfl,rfl⟩:=H;have FD:wr.cell? ⟨gb,0,none⟩=some (.int .i64 a):=(aJ BK.out 0).trans rfl;have FH:wr.cell? ⟨gb,1,none⟩=some (.int .i64 b):=(aJ BK.out 1).trans rfl;have FI:=aI BK.out 0;have hfz1:=aI BK.out 1
     go_wp2_with (fail)
     refine bodyPost_ret (results_cell_row rfl _ _ gb 27 #[.int .i64 0,.int .i64 0] (0,0) _ rfl (by refine aU ?_;refine bH (cs:=#[.int .i64 0,.int .i64 b]) ?_ 1 _ rfl;refine aU ?_;refine bH (cs:=#[.int .i64 a,.int .i64 b]) ?_ 0 _ rfl;refine aU ?_;exact BK.out) Try.underlying27 rfl aV) rfl ?_;exact ⟨by first|rfl|(simp;done)|(simp [*];done),dA HB.out GE.out⟩
end Go.Proofs.Ytipjpdiianopcaa.Cv
namespace Go.Proofs.Ytipjpdiianopcaa.Cv
open Go.RowKit Go.Proofs.YtipjpdiianopcaaW.aZ Go.Proofs.YtipjpdiianopcaaW.dQ Go.Proofs.YtipjpdiianopcaaW.gW Go.Proofs.Ytipjpdiianopcaa.A
attribute [local go_sem] jY jZ kY kZ jD jE kC kD
set_option linter.unusedVariables false
set_option linter.unusedSimpArgs false
theorem GY (d:Nat) (w:World) (x0 y0:Int) (x1 y1:Int) :
  (Op.equalIn (d+2) 27 (.agg #[.int .i64 x0,.int .i64 x1]) (.agg #[.int .i64 y0,.int .i64 y1])).run Try.prog w=.ok (x0==y0&&(x1==y1)) w:=by
 refine KX Try.underlying27 aV ?_
 refine Ec (by rfl) (by go_simp;rfl) (by go_simp;rfl) (by go_simp) ?_
 exact Ed (by rfl) (by go_simp;rfl) (by go_simp;rfl) (by go_simp)
attribute [local go_sem high] GY
def isNamed (name:ByteArray) (kinds:List Int) (g:iJ):Bool:=g.f0.toList==name.toList&&decide (g.f2=kinds)
def jH.f (k:Nat) (l0:List iJ) (name:ByteArray) (kinds:List Int):Option (Int × Int × Int):=(dP.f k l0).bind fun bt=>(if (!(bt.1==0) || (!(bt.2==0)))=true then some (0,bt.1,bt.2) else (if xY (isNamed name kinds) l0<0 then some (0,6,-2) else some (xY (isNamed name kinds) l0,bt.1,bt.2)))
theorem jH.mono:∀ a0 a1 a2 k,eG (jH.f k a0 a1 a2) (jH.f (k+1) a0 a1 a2):=by
 intro a0 a1 a2 k
 unfold jH.f
 repeat' first
   | (with_reducible exact dP.mono _ _)
   | (with_reducible exact eG.refl _)
   | (with_reducible refine eG.ite ?_ ?_)
   | (with_reducible refine eG.bind ?_ (fun _=>?_))
   | exact dP.mono _ _
   | refine eG.ite ?_ ?_
   | refine eG.bind ?_ (fun _=>?_)
theorem Bc {w W:World} {name:ByteArray} {kinds:List Int} {A2:Option Addr} {c2 g4 g5:Nat} {l:List iJ} (hr:Kd.C (Kd.int .i64) w A2 kinds.length kinds) (hb:Below w.heap.size w W) (h4:W.heap[g4]?=some (.cells #[.string name] 9 (0,0))) (h5:W.heap[g5]?=some (.cells #[.slice A2 kinds.length c2] 22 (0,0))):Io 74 #[.pointer (some ⟨g4,0,none⟩),.pointer (some ⟨g5,0,none⟩)] (isNamed name kinds) l W:=by
 intro V x Ag cg hV hx hg
 have hlt4:g4<W.heap.size:=gU h4
 have aCb:g5<W.heap.size:=gU h5
 have h4':=bJ h4 hV
 have h5':=bJ h5 hV
 exact named.calls g4 g5 name kinds x A2 Ag c2 cg V (Nat.lt_of_lt_of_le hlt4 hV.size) (Nat.lt_of_lt_of_le aCb hV.size) ((aJ h4' 0).trans rfl) ((aJ h5' 0).trans rfl) (Kd.gI (Kd.gI hr hb) hV) hg
set_option maxHeartbeats 1000000 in
set_option maxRecDepth 100000 in
theorem jH.calls (k:Nat) (A0:Option Addr) (c0:Nat) (l0:List iJ) (name:ByteArray) (A2:Option Addr) (c2:Nat) (kinds:List Int) (r1:Int) (r2:Int) (r3:Int) (w:World) (hr0:Kd.C rC w A0 l0.length l0) (hc0:l0.length≤c0) (hr2:Kd.C (Kd.int .i64) w A2 kinds.length kinds) (hc2:kinds.length≤c2) (h:jH.f k l0 name kinds=some (r1,r2,r3)) :
  Calls Try.prog 39 #[.slice A0 l0.length c0,.string name,.slice A2 kinds.length c2] w fun e w'=>e=.returned (.tuple #[.int .i64 r1,.agg #[.int .i64 r2,.int .i64 r3]])∧Below w.heap.size w w':=by
 have Eu:=Try.underlying27
 have vH:=Try.underlying54
 have hmf:∀ (fn:Fn) (first cap:Array Value) (w:World),(Instr.makeFunc fn first cap).run Try.prog w=.ok (.func fn first cap) w:=fun _ _ _ _=>rfl
 have eg:∀ args w,(callFunc 74 args).run Try.prog w=.ok (.enter 74 args) w:=wH Try.func74 aV rfl
 have HR0:=aA.mk hr0
 have PE:=aA.mk hc0
 have HR2:=aA.mk hr2
 have HC2:=aA.mk hc2
 clear hr0 hc0 hr2 hc2
 have HB:=aA.mk (Below.refl w.heap.size w)
 unfold jH.f at h
 obtain ⟨⟨t1,t2⟩,Dy,H⟩:=Option.bind_eq_some_iff.mp h
 clear h
 have A1:=aA.mk Dy
 clear Dy
 dsimp only at H
 obtain ⟨x,hx⟩:∃ x,xY (isNamed name kinds) l0=x:=⟨_,rfl⟩
 rw [hx] at H
 have X:=aA.mk hx
 clear hx
 have H':=aA.mk H
 clear H
 go_enter Try.func39,Try.ntmps39
 go_upto_region 2 with (first|((with_reducible refine bC (N:=4) rfl ?_);refine eX ?hg (N:=4) ?hd (cs:=#[.string name]) (t:=9) ?hr ?_;(case hd=>rfl);(case hg=>rfl);(case hr=>first|(go_simp;done)|(go_simp;rfl));intro g4 hg w4 hbox hb;have nb_:=aA.mk (aN (bM HB.out) hb);have oO:=aA.mk hbox;have uM:=aA.mk ((by rw [hg];exact (aQ (bM HB.out))):w.heap.size≤g4);clear HB;have HB:=nb_;clear nb_;clear hb hbox hg)|((with_reducible refine bC (N:=5) rfl ?_);refine eX ?hg (N:=5) ?hd (cs:=#[.slice A2 kinds.length c2]) (t:=22) ?hr ?_;(case hd=>rfl);(case hg=>rfl);(case hr=>first|(go_simp;done)|(go_simp;rfl));intro g5 hg w5 hbox hb;have mQ:=aA.mk (bJ (g:=g4) (o:=.cells #[.string name] 9 (0,0)) (aU oO.out) hb);have nb_:=aA.mk (aN (dA HB.out uM.out) hb);have Ep:=aA.mk hbox;have Es:=aA.mk ((by rw [hg];exact (aQ (dA HB.out uM.out))):w.heap.size≤g5);have Vq:=aA.mk ((by rw [hg];exact Nat.ne_of_lt (gU (g:=g4) (o:=.cells #[.string name] 9 (0,0)) (aU oO.out)):g4≠g5));have aDi:=aA.mk Vq.out.symm;clear oO HB;have oO:=mQ;clear mQ;have HB:=nb_;clear nb_;clear hb hbox hg)|((with_reducible refine bC (N:=7) rfl ?_);refine eX ?hg (N:=7) ?hd (cs:=#[.int .i64 0,.int .i64 0]) (t:=27) ?hr ?_;(case hd=>rfl);(case hg=>rfl);(case hr=>first|(go_simp;done)|(go_simp;rfl));intro g7 hg w6 hbox hb;have mQ:=aA.mk (bJ (g:=g4) (o:=.cells #[.string name] 9 (0,0)) (aU oO.out) hb);have mM:=aA.mk (bJ (g:=g5) (o:=.cells #[.slice A2 kinds.length c2] 22 (0,0)) (aU Ep.out) hb);have nb_:=aA.mk (aN (fJ HB.out uM.out Es.out) hb);have qO:=aA.mk hbox;have Ip:=aA.mk ((by rw [hg];exact (aQ (fJ HB.out uM.out Es.out))):w.heap.size≤g7);have Vr:=aA.mk ((by rw [hg];exact Nat.ne_of_lt (gU (g:=g4) (o:=.cells #[.string name] 9 (0,0)) (aU oO.out)):g4≠g7));have aDj:=aA.mk Vr.out.symm;have Vs:=aA.mk ((by rw [hg];exact Nat.ne_of_lt (gU (g:=g5) (o:=.cells #[.slice A2 kinds.length c2] 22 (0,0)) (aU Ep.out)):g5≠g7));have aDk:=aA.mk Vs.out.symm;clear oO Ep HB;have oO:=mQ;clear mQ;have Ep:=mM;clear mM;have HB:=nb_;clear nb_;clear hb hbox hg)|((with_reducible refine bC (N:=8) rfl ?_);refine eX ?hg (N:=8) ?hd (cs:=#[.int .i64 0,.int .i64 0]) (t:=27) ?hr ?_;(case hd=>rfl);(case hg=>rfl);(case hr=>first|(go_simp;done)|(go_simp;rfl));intro g8 hg w10 hbox hb;have mQ:=aA.mk (bJ (g:=g4) (o:=.cells #[.string name] 9 (0,0)) (aU oO.out) hb);have mM:=aA.mk (bJ (g:=g5) (o:=.cells #[.slice A2 kinds.length c2] 22 (0,0)) (aU Ep.out) hb);have xA:=aA.mk (bJ (g:=g7) (o:=.cells #[.int .i64 0,.int .i64 0] 27 (0,0)) (aU qO.out) hb);have nb_:=aA.mk (aN (CO HB.out uM.out Es.out Ip.out) hb);have wI:=aA.mk hbox;have MB:=aA.mk ((by rw [hg];exact (aQ (CO HB.out uM.out Es.out Ip.out))):w.heap.size≤g8);have KY:=aA.mk ((by rw [hg];exact Nat.ne_of_lt (gU (g:=g4) (o:=.cells #[.string name] 9 (0,0)) (aU oO.out)):g4≠g8));have aDl:=aA.mk KY.out.symm;have KZ:=aA.mk ((by rw [hg];exact Nat.ne_of_lt (gU (g:=g5) (o:=.cells #[.slice A2 kinds.length c2] 22 (0,0)) (aU Ep.out)):g5≠g8));have aDm:=aA.mk KZ.out.symm;have Ee:=aA.mk ((by rw [hg];exact Nat.ne_of_lt (gU (g:=g7) (o:=.cells #[.int .i64 0,.int .i64 0] 27 (0,0)) (aU qO.out)):g7≠g8));have uN:=aA.mk Ee.out.symm;clear oO Ep qO HB;have oO:=mQ;clear mQ;have Ep:=mM;clear mM;have qO:=xA;clear xA;have HB:=nb_;clear nb_;clear hb hbox hg;have zc0:w10.cell? ⟨g8,0,none⟩=some (.int .i64 0):=(aJ wI.out 0).trans rfl;have zf0:=aI wI.out 0;have zc1:w10.cell? ⟨g8,1,none⟩=some (.int .i64 0):=(aJ wI.out 1).trans rfl;have zf1:=aI wI.out 1)|(go_at_call 35;refine (dP.calls k A0 c0 l0 t1 t2 _ (Kd.gI HR0.out (CO HB.out uM.out Es.out Ip.out)) PE.out A1.out).mono ?_;rintro e w9 ⟨rfl,hb⟩;have mQ:=aA.mk (bJ (g:=g4) (o:=.cells #[.string name] 9 (0,0)) (aU oO.out) hb);have mM:=aA.mk (bJ (g:=g5) (o:=.cells #[.slice A2 kinds.length c2] 22 (0,0)) (aU Ep.out) hb);have xA:=aA.mk (bJ (g:=g7) (o:=.cells #[.int .i64 0,.int .i64 0] 27 (0,0)) (aU qO.out) hb);have nb_:=aA.mk (aN (CO HB.out uM.out Es.out Ip.out) hb);clear oO Ep qO HB hb;have oO:=mQ;have Ep:=mM;have qO:=xA;have HB:=nb_;clear mQ mM xA nb_))
 (try simp only [Act.put,Aq,Ar,Au])
 have mQ:aA (((w10.setCell ⟨g8,0,none⟩ (.int .i64 t1)).setCell ⟨g8,1,none⟩ (.int .i64 t2)).heap[g4]?=some (.cells #[.string name] 9 (0,0))):=⟨by refine aU ?_;refine fO ?_ KY.out _;refine aU ?_;refine fO ?_ KY.out _;refine aU ?_;exact oO.out⟩
 have mM:aA (((w10.setCell ⟨g8,0,none⟩ (.int .i64 t1)).setCell ⟨g8,1,none⟩ (.int .i64 t2)).heap[g5]?=some (.cells #[.slice A2 kinds.length c2] 22 (0,0))):=⟨by refine aU ?_;refine fO ?_ KZ.out _;refine aU ?_;refine fO ?_ KZ.out _;refine aU ?_;exact Ep.out⟩
 have xA:aA (((w10.setCell ⟨g8,0,none⟩ (.int .i64 t1)).setCell ⟨g8,1,none⟩ (.int .i64 t2)).heap[g7]?=some (.cells #[.int .i64 0,.int .i64 0] 27 (0,0))):=⟨by refine aU ?_;refine fO ?_ Ee.out _;refine aU ?_;refine fO ?_ Ee.out _;refine aU ?_;exact qO.out⟩
 have Ac:aA (((w10.setCell ⟨g8,0,none⟩ (.int .i64 t1)).setCell ⟨g8,1,none⟩ (.int .i64 t2)).heap[g8]?=some (.cells #[.int .i64 t1,.int .i64 t2] 27 (0,0))):=⟨by refine aU ?_;refine bH (cs:=#[.int .i64 t1,.int .i64 0]) ?_ 1 _ rfl;refine aU ?_;refine bH (cs:=#[.int .i64 0,.int .i64 0]) ?_ 0 _ rfl;refine aU ?_;exact wI.out⟩
 have nb_:aA (Below w.heap.size w ((w10.setCell ⟨g8,0,none⟩ (.int .i64 t1)).setCell ⟨g8,1,none⟩ (.int .i64 t2))):=⟨qP HB.out uM.out Es.out Ip.out MB.out⟩
 clear oO Ep qO wI HB
 generalize ((w10.setCell ⟨g8,0,none⟩ (.int .i64 t1)).setCell ⟨g8,1,none⟩ (.int .i64 t2))=JJ at mQ mM xA Ac nb_ ⊢
 have oO:=mQ
 have Ep:=mM
 have qO:=xA
 have wI:=Ac
 have HB:=nb_
 clear mQ mM xA Ac nb_
 have H:=H'.out
 clear H'
 have hc0:JJ.cell? ⟨g8,0,none⟩=some (.int .i64 t1):=(aJ wI.out 0).trans rfl
 have hf0:=aI wI.out 0
 have hc1:JJ.cell? ⟨g8,1,none⟩=some (.int .i64 t2):=(aJ wI.out 1).trans rfl
 have hf1:=aI wI.out 1
 by_cases c:(!(t1==0) || (!(t2==0)))=true
 ·rw [if_pos c] at H
  simp only [Option.some.injEq,Prod.mk.injEq] at H
  obtain ⟨rfl,rfl,rfl⟩:=H
  try go_wp2
  have xA:=aA.mk (iQ qO.out)
  have Ac:=aA.mk (iQ wI.out)
  have nb_:=aA.mk (fZ HB.out)
  clear qO wI HB
  have qO:=xA
  have wI:=Ac
  have HB:=nb_
  clear xA Ac nb_
  refine pO (n:=3) (S:=fun w'=>w'.cell? ⟨g8,0,none⟩=some (.int .i64 t1)∧w'.cell? ⟨g8,1,none⟩=some (.int .i64 t2)) (ds:=[]) #[false,false,false] aV rfl rfl ⟨(aJ wI.out 0).trans rfl,(aJ wI.out 1).trans rfl⟩ (fun hHeld=>?_)
  generalize JJ.drew=w13 at qO wI HB hHeld ⊢
  refine dZ (i:=1) (N:=some 6) (v:=?_) (a':=?_) #[false,true,false] rfl rfl aV (fun _ _ _ h=>h) (dO ?_) ?_ ?_
  rotate_left
  ·intro w';go_simp;with_reducible rfl
  rotate_left
  ·simp only [Act.put,dD];rfl
  refine kT (i:=0) (N:=some 15) (v:=?_) (a':=?_) #[true,true,false] rfl rfl aV (fun _ _ _ h=>h) (dO ?_) hHeld ?_ ?_
  rotate_left
  ·rintro w' ⟨s0,s1⟩;go_simp;with_reducible rfl
  rotate_left
  ·simp only [Act.put,dD];rfl
  refine xW (i:=2) (N:=none) #[true,true,true] rfl rfl aV (by decide) (fun K hK=>?_)
  have hs0:w13.cell? ⟨g7,0,none⟩=some (.int .i64 0):=(aJ qO.out 0).trans rfl
  have Sj:=aI qO.out 0
  have hs1:w13.cell? ⟨g7,1,none⟩=some (.int .i64 0):=(aJ qO.out 1).trans rfl
  have Sl:=aI qO.out 1
  have hns:=uN.out
  have hms:=Ee.out
  refine AY (w1:=?_) (by rfl) rfl ?_ ?_
  rotate_left
  ·go_simp;rfl
  refine hK.out _ _ ⟨(cell_far (p:=⟨g7,_,none⟩) uN.out _).trans ((cell_far (p:=⟨g7,_,none⟩) uN.out _).trans (hHeld.1)),(cell_far (p:=⟨g7,_,none⟩) uN.out _).trans ((cell_far (p:=⟨g7,_,none⟩) uN.out _).trans (hHeld.2))⟩ (fun hHeld=>?_)
  clear hK K
  refine sG aV ?_
  try go_wp2
  refine bodyPost_ret (iM rfl _ _ g7 27 #[.int .i64 t1,.int .i64 t2] (0,0) _ rfl (by refine aU ?_;refine bH (cs:=#[.int .i64 t1,.int .i64 0]) ?_ 1 _ rfl;refine aU ?_;refine bH (cs:=#[.int .i64 0,.int .i64 0]) ?_ 0 _ rfl;refine aU ?_;exact qO.out) Try.underlying27 rfl aV) rfl ?_
  exact ⟨by first|rfl|(simp;done)|(simp [*];done),qP HB.out uM.out Es.out Ip.out MB.out⟩
 ·rw [if_neg c] at H
  have cb:(!(t1==0) || (!(t2==0)))=false:=by simpa using c
  clear c
  by_cases d:x<0
  ·rw [if_pos d] at H;have d0:decide (x<0)=true:=eH d;clear d;simp only [Option.some.injEq,Prod.mk.injEq] at H;obtain ⟨rfl,rfl,rfl⟩:=H
   go_wp2_with (first|(go_at_call 73;have hcc:=IndexFunc.calls 74 #[.pointer (some ⟨g4,0,none⟩),.pointer (some ⟨g5,0,none⟩)] (isNamed name kinds) eg A0 c0 l0 _ (Kd.gI HR0.out (qP HB.out uM.out Es.out Ip.out MB.out)) (Bc HR2.out (qP HB.out uM.out Es.out Ip.out MB.out) (aU oO.out) (aU Ep.out));rw [X.out] at hcc;refine hcc.mono ?_;clear hcc;rintro e w12 ⟨rfl,hb⟩;have xA:=aA.mk (bJ (g:=g7) (o:=.cells #[.int .i64 0,.int .i64 0] 27 (0,0)) (aU qO.out) hb);have Ac:=aA.mk (bJ (g:=g8) (o:=.cells #[.int .i64 t1,.int .i64 t2] 27 (0,0)) (aU wI.out) hb);have nb_:=aA.mk (aN (qP HB.out uM.out Es.out Ip.out MB.out) hb);clear qO wI HB hb;have qO:=xA;have wI:=Ac;have HB:=nb_;clear xA Ac nb_;have hs0:w12.cell? ⟨g7,0,none⟩=some (.int .i64 0):=(aJ qO.out 0).trans rfl;have hs1:w12.cell? ⟨g7,1,none⟩=some (.int .i64 0):=(aJ qO.out 1).trans rfl;have Sj:=aI qO.out 0;have Sl:=aI qO.out 1))
   refine bodyPost_ret (iM rfl _ _ g7 27 #[.int .i64 6,.int .i64 (-2)] (0,0) _ rfl (by refine aU ?_;refine bH (cs:=#[.int .i64 6,.int .i64 0]) ?_ 1 _ rfl;refine aU ?_;refine bH (cs:=#[.int .i64 0,.int .i64 0]) ?_ 0 _ rfl;refine aU ?_;exact qO.out) Try.underlying27 rfl aV) rfl ?_;exact ⟨by first|rfl|(simp;done)|(simp [*];done),qP HB.out uM.out Es.out Ip.out MB.out⟩
  ·rw [if_neg d] at H;have d0:decide (x<0)=false:=iE d;clear d;simp only [Option.some.injEq,Prod.mk.injEq] at H;obtain ⟨rfl,rfl,rfl⟩:=H
   go_wp2_with (first|(go_at_call 73;have hcc:=IndexFunc.calls 74 #[.pointer (some ⟨g4,0,none⟩),.pointer (some ⟨g5,0,none⟩)] (isNamed name kinds) eg A0 c0 l0 _ (Kd.gI HR0.out (qP HB.out uM.out Es.out Ip.out MB.out)) (Bc HR2.out (qP HB.out uM.out Es.out Ip.out MB.out) (aU oO.out) (aU Ep.out));rw [X.out] at hcc;refine hcc.mono ?_;clear hcc;rintro e w12 ⟨rfl,hb⟩;have xA:=aA.mk (bJ (g:=g7) (o:=.cells #[.int .i64 0,.int .i64 0] 27 (0,0)) (aU qO.out) hb);have Ac:=aA.mk (bJ (g:=g8) (o:=.cells #[.int .i64 t1,.int .i64 t2] 27 (0,0)) (aU wI.out) hb);have nb_:=aA.mk (aN (qP HB.out uM.out Es.out Ip.out MB.out) hb);clear qO wI HB hb;have qO:=xA;have wI:=Ac;have HB:=nb_;clear xA Ac nb_;have hs0:w12.cell? ⟨g7,0,none⟩=some (.int .i64 0):=(aJ qO.out 0).trans rfl;have hs1:w12.cell? ⟨g7,1,none⟩=some (.int .i64 0):=(aJ qO.out 1).trans rfl;have Sj:=aI qO.out 0;have Sl:=aI qO.out 1))
   have xA:=aA.mk (iQ qO.out);have Ac:=aA.mk (iQ wI.out);have nb_:=aA.mk (fZ HB.out);clear qO wI HB;have qO:=xA;have wI:=Ac;have HB:=nb_;clear xA Ac nb_;refine pO (n:=4) (S:=fun w'=>w'.cell? ⟨g8,0,none⟩=some (.int .i64 t1)∧w'.cell? ⟨g8,1,none⟩=some (.int .i64 t2)) (ds:=[]) #[false,false,false,false] aV rfl rfl ⟨(aJ wI.out 0).trans rfl,(aJ wI.out 1).trans rfl⟩ (fun hHeld=>?_);generalize w12.drew=ZC at qO wI HB hHeld ⊢;refine dZ (i:=0) (N:=some 22) (v:=?_) (a':=?_) #[true,false,false,false] rfl rfl aV (fun _ _ _ h=>h) (dO ?_) ?_ ?_;rotate_left
   ·intro w';go_simp;with_reducible rfl
   rotate_left
   ·simp only [Act.put,dD];rfl
   refine dZ (i:=2) (N:=some 6) (v:=?_) (a':=?_) #[true,false,true,false] rfl rfl aV (fun _ _ _ h=>h) (dO ?_) ?_ ?_;rotate_left
   ·intro w';go_simp;with_reducible rfl
   rotate_left
   ·simp only [Act.put,dD];rfl
   refine kT (i:=1) (N:=some 23) (v:=?_) (a':=?_) #[true,true,true,false] rfl rfl aV (fun _ _ _ h=>h) (dO ?_) hHeld ?_ ?_;rotate_left
   ·rintro w' ⟨s0,s1⟩;go_simp;with_reducible rfl
   rotate_left
   ·simp only [Act.put,dD];rfl
   refine xW (i:=3) (N:=none) #[true,true,true,true] rfl rfl aV (by decide) (fun K hK=>?_);have hs0:ZC.cell? ⟨g7,0,none⟩=some (.int .i64 0):=(aJ qO.out 0).trans rfl;have Sj:=aI qO.out 0;have hs1:ZC.cell? ⟨g7,1,none⟩=some (.int .i64 0):=(aJ qO.out 1).trans rfl;have Sl:=aI qO.out 1;have hns:=uN.out;have hms:=Ee.out;refine AY (w1:=?_) (by rfl) rfl ?_ ?_;rotate_left
   ·go_simp;rfl
   refine hK.out _ _ ⟨(cell_far (p:=⟨g7,_,none⟩) uN.out _).trans ((cell_far (p:=⟨g7,_,none⟩) uN.out _).trans (hHeld.1)),(cell_far (p:=⟨g7,_,none⟩) uN.out _).trans ((cell_far (p:=⟨g7,_,none⟩) uN.out _).trans (hHeld.2))⟩ (fun hHeld=>?_);clear hK K;refine sG aV ?_
   try go_wp2
   refine bodyPost_ret (iM rfl _ _ g7 27 #[.int .i64 t1,.int .i64 t2] (0,0) _ rfl (by refine aU ?_;refine bH (cs:=#[.int .i64 t1,.int .i64 0]) ?_ 1 _ rfl;refine aU ?_;refine bH (cs:=#[.int .i64 0,.int .i64 0]) ?_ 0 _ rfl;refine aU ?_;exact qO.out) Try.underlying27 rfl aV) rfl ?_;exact ⟨by first|rfl|(simp;done)|(simp [*];done),qP HB.out uM.out Es.out Ip.out MB.out⟩
end Go.Proofs.Ytipjpdiianopcaa.Cv
