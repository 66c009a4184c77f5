/- Words and contracts for the laws of encode. -/
import Derived.Test.YtipjpdiianopcaaqCgr
set_option linter.unusedVariables false
set_option linter.unusedSimpArgs false
namespace Go.Proofs.Ytipjpdiianopcaa.Cgr
open Go.RowKit Go.Proofs.YtipjpdiianopcaaW.dF Go.Proofs.YtipjpdiianopcaaW.fO Go.Proofs.YtipjpdiianopcaaW.jP Go.Proofs.Ytipjpdiianopcaa.A
set_option linter.unusedVariables false
set_option linter.unusedSimpArgs false
theorem aCU (ps:List (List Int)) (i:Nat) (h:i<ps.length):(ps.take (i+1)).flatten=(ps.take i).flatten ++ ps[i]:=by
 rw [List.take_succ_eq_append_getElem h,List.flatten_append];simp
theorem aTp (ps:List (List Int)) (i:Nat):(ps.take i).flatten.length≤ps.flatten.length:=by
 have h:=congrArg List.length (congrArg List.flatten (List.take_append_drop i ps))
 rw [List.flatten_append,List.length_append] at h
 omega
def tot (ps:List (List Int)) (i:Nat):Nat:=(ps.take i).flatten.length
theorem aGR (ps:List (List Int)):tot ps ps.length=ps.flatten.length:=by unfold tot;rw [List.take_length]
theorem aCV (ps:List (List Int)) (i:Nat) (h:i<ps.length):tot ps (i+1)=tot ps i+(ps[i]).length:=by unfold tot;rw [aCU ps i h,List.length_append]
theorem aGS (ps:List (List Int)) (i:Nat):tot ps i≤ps.flatten.length:=aTp ps i
set_option maxHeartbeats 1000000 in
set_option maxRecDepth 100000 in
theorem concat (A0:Option Addr) (c0:Nat) (ps:List (List Int)) (w:World)
  (hp:∀ i (h:i<ps.length),∃ ad A c,A0=some ad∧w.cell? (ad.add i)=some (.slice A (ps[i]).length c)∧(Kd.int .u8).C w A (ps[i]).length ps[i])
  (hn:ps.flatten.length≤1000000000) (hm:ps.length≤1000) :
  Calls Try.prog 81 #[.slice A0 ps.length c0] w fun e w'=>∃ v,e=.returned v∧(Kd.int .u8).R 5 w' w.heap.size (fun _=>True) v ps.flatten∧Below w.heap.size w w':=by
 have HP:=aA.mk hp
 have HN:=aA.mk hn
 have HM:=aA.mk hm
 clear hp hn hm
 go_enter Try.func81,Try.ntmps81
 go_wp2
 repeat (go_quiet (fail);try go_wp2)
 go_loopg [3,11] (ps.length+1) (fun kq v3 v11 w'=>∃ i:Nat,v3=.int .i64 (tot ps i:Int)∧v11=.int .i64 (i:Int)∧aA (i≤ps.length)∧aA (i+kq=ps.length+1)∧w'=w)
 case atStart=>exact ⟨0,by simp [tot],by simp,⟨by omega⟩,⟨by omega⟩,rfl⟩
 case round =>
  obtain ⟨i,rfl,rfl,HI,HK,hw⟩:=hrel
  replace hw:=hw.symm
  subst hw
  have hk:=HK.out
  cases gk with
  | zero=>exact absurd HI.out (by omega)
  | succ k =>
   by_cases ci:i<ps.length
   ·obtain ⟨ad,A,c,e9,h1,h2⟩:=HP.out i ci
    cases e9
    have hs:=aCV ps i ci;have hmx:=aGS ps (i+1);have hN:=HN.out;have hM:=HM.out;have hx:wrap64 ((tot ps i:Int)+((ps[i]).length:Int))=(tot ps (i+1):Int):=by rw [hs];unfold wrap64;omega
    have hy:wrap64 ((i:Int)+1)=((i+1:Nat):Int):=by unfold wrap64;omega
    have c0:¬ ((tot ps (i+1):Int)<0):=by omega
    have c1:((i:Int)<(ps.length:Int))=True:=eq_true (by omega);have c2:(0≤(i:Int))=True:=eq_true (by omega);obtain ⟨t1,e1⟩:∃ t,t=tot ps (i+1):=⟨_,rfl⟩
    obtain ⟨t0,e0⟩:∃ t,t=tot ps i:=⟨_,rfl⟩
    obtain ⟨x,ex⟩:∃ t,t=ps[i]:=⟨_,rfl⟩
    rw [← e1] at hx c0;rw [← e0] at hx ⊢;rw [← ex] at hx h1;have HE:=aA.mk e1;have HC:=aA.mk ci;clear hs hmx hN hM h2 e1 e0 ex ci;clear HN HM;have Ws:=aA.mk hk;clear hk
    go_wp2
    repeat (go_quiet (fail);try go_wp2)
    go_roundg k
    case measure=>have:=Ws.out;omega
    case rel=>exact ⟨i+1,by rw [HE.out],by simp,⟨by have:=HC.out;omega⟩,⟨by have:=Ws.out;omega⟩,rfl⟩
   ·have ei:i=ps.length:=by have:=HI.out;omega
    subst ei;have hN:tot ps ps.length≤1000000000:=by rw [aGR];exact HN.out
    obtain ⟨t0,e0⟩:∃ t,t=tot ps ps.length:=⟨_,rfl⟩
    rw [← e0] at hN ⊢;have HN2:=aA.mk hN;have HE:=aA.mk e0;clear hN e0 HN;have c1:¬ ((ps.length:Int)<(ps.length:Int)):=by omega
    clear hk
    go_wp2_with (go_at_call 92;(with_reducible refine (aKM t0 w w w.heap.size (Below.refl _ _) (Nat.le_refl _) HN2.out).mono ?_);rintro e w1 ⟨A,c,rfl,hR,hBw,aQa⟩;have HR:=aA.mk hR;have HB:=aA.mk hBw;have HKe:=aA.mk aQa;clear hR hBw aQa)
    go_loopg [6,27] (ps.length+1) (fun kq v6 v27 w'=>∃ i:Nat,v27=.int .i64 (i:Int)∧aA (i≤ps.length)∧aA (i+kq=ps.length+1)∧aA ((Kd.int .u8).R 5 w' w.heap.size (fun _=>True) v6 (ps.take i).flatten)∧aA (Below w.heap.size w w'))
    case atStart=>exact ⟨0,by simp,⟨by omega⟩,⟨by omega⟩,⟨by simpa using HR.out⟩,HB⟩
    case round =>
     clear HR HKe HB;obtain ⟨i,rfl,HI,HK,HR,HB⟩:=hrel;have hk:=HK.out
     cases gk with
     | zero=>exact absurd HI.out (by omega)
     | succ k =>
      by_cases ci:i<ps.length
      ·obtain ⟨ad,A2,c2,e9,h1,h2⟩:=HP.out i ci
       cases e9
       have hmx:=aGS ps (i+1);have hs:=aCV ps i ci;have hN:=HN2.out;have hM:=HM.out;have he:=HE.out;rw [aGR] at he;have hst:=aCU ps i ci;have hL:(ps.take i).flatten.length+(ps[i]).length≤1000000000:=by
        have:tot ps i=(ps.take i).flatten.length:=rfl;omega
       have hy:wrap64 ((i:Int)+1)=((i+1:Nat):Int):=by unfold wrap64;omega
       have c1:((i:Int)<(ps.length:Int))=True:=eq_true (by omega);have c2:(0≤(i:Int))=True:=eq_true (by omega);have h1':=(HB.out.cell (dM _ _ h1)).trans h1;have h2':=Kd.dP h2 HB.out;obtain ⟨x,ex⟩:∃ t,t=ps[i]:=⟨_,rfl⟩
       obtain ⟨y,ey⟩:∃ t,t=(ps.take i).flatten:=⟨_,rfl⟩
       obtain ⟨z,ez⟩:∃ t,t=(ps.take (i+1)).flatten:=⟨_,rfl⟩
       rw [← ex] at h1' h2' hst hL;rw [← ey] at hst hL HR;rw [← ez] at hst;have HZ:=aA.mk hst;have HEz:=aA.mk ez;have HL:=aA.mk hL;have HX:=aA.mk h2';have HC:=aA.mk ci;have Ws:=aA.mk hk;clear hmx hs hN hM he hst hL h1 h2 h2' ex ey ez ci hk
       go_wp2_with (first|((with_reducible refine qM (b:=.append) (xs:=#[.tmp 31,.tmp 32]) rfl ?_);at_builtin;refine Kd.DI (Kd.int .u8) (w0:=w) w.heap.size rfl (.tmp 31) (.tmp 32) 25 5 (.int .u8 0) 1 rfl Try.underlying25 info5 rfl (by decide) (by omega) _ y x _ _ _ (fun _=>True) (fun _=>False) rfl rfl ?aO ?aR (fun _ _ h=>h) (fun _ h=>h.elim) ?aF ?aB ?aS ?aL ?_;(case aR=>exact HX.out);(case aB=>exact HB.out);(case aF=>exact (fun _ _=>trivial));(case aO=>exact HR.out);(case aS=>exact HB.out.size);(case aL=>have:=HL.out;omega);intro v1 w3 ho hb hg hat;rw [← HZ.out] at ho;have HR2:=aA.mk ho;have HB2:=aA.mk hb;clear ho hb hg hat))
       go_roundg k
       case measure=>have:=Ws.out;omega
       case rel=>exact ⟨i+1,by have h1:=HC.out;have h2:=HM.out;have h3:wrap64 ((i:Int)+1)=((i+1:Nat):Int):=by { unfold wrap64;omega };rw [h3],⟨by have:=HC.out;omega⟩,⟨by have:=Ws.out;omega⟩,⟨by rw [← HEz.out];exact HR2.out⟩,HB2⟩
      ·have ei:i=ps.length:=by have:=HI.out;omega
       subst ei;have c1:¬ ((ps.length:Int)<(ps.length:Int)):=by omega
       rw [List.take_length] at HR;clear hk
       go_wp2
       go_ret
       exact ⟨_,rfl,HR.out,HB.out⟩
end Go.Proofs.Ytipjpdiianopcaa.Cgr
namespace Go.Proofs.Ytipjpdiianopcaa.A
open Go.RowKit Go.Proofs.YtipjpdiianopcaaW.dF Go.Proofs.YtipjpdiianopcaaW.fO Go.Proofs.YtipjpdiianopcaaW.jP
def jG.f (l0:List (List Int)):Option (List Int):=if l0.flatten.length≤1000000000∧l0.length≤1000 then some l0.flatten else none
theorem jG.calls (A0:Option Addr) (c0:Nat) (l0:List (List Int)) (r:List Int) (w:World) (hr0:Kd.C (Kd.slice 5 (Kd.int .u8)) w A0 l0.length l0) (hc0:l0.length≤c0) (h:jG.f l0=some r) :
  Calls Try.prog 81 #[.slice A0 l0.length c0] w fun e w'=>∃ ZP:Value,e=.returned (ZP)∧Kd.R (Kd.int .u8) 5 w' w.heap.size (fun _=>True) ZP r∧Below w.heap.size w w':=by
 unfold jG.f at h
 split at h
 case isFalse=>cases h
 case isTrue hh =>
  cases h
  refine Cgr.concat A0 c0 l0 w (fun i hi=>?_) hh.1 hh.2
  obtain ⟨ad,c,e,_,hK,h0⟩:=Kd.aOA hr0 ([]:List Int) (i:Int) (by omega) (by omega)
  have h1:∀ j u,c[j]?=some u→w.cell? (ad.add ((i:Int).toNat*1+j))=some u:=h0
  have e2:l0.getD (i:Int).toNat []=l0[i]:=by rw [Int.toNat_natCast,List.getD_eq_getElem?_getD,Nr hi];rfl
  rw [e2] at hK
  obtain ⟨A1,c1,rfl,l1,g1⟩:=hK
  refine ⟨ad,A1,c1,e,?_,g1⟩
  have hq:=h1 0 _ rfl
  rwa [Nat.mul_one,Nat.add_zero,Int.toNat_natCast] at hq
end Go.Proofs.Ytipjpdiianopcaa.A
