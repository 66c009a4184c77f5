/- Words and contracts for the laws of encode. -/
import Derived.Test.YtipjpdiianopcaaqCl
import Derived.Test.YtipjpdiianopcaaqAx13
import Derived.Test.YtipjpdiianopcaaqAx14
set_option linter.unusedVariables false
set_option linter.unusedSimpArgs false
namespace Go.Proofs.Ytipjpdiianopcaa.Cl
open Go.RowKit Go.Proofs.YtipjpdiianopcaaW.dF Go.Proofs.Ytipjpdiianopcaa.A Go.Proofs.Ytipjpdiianopcaa.Pure
set_option linter.unusedVariables false
theorem YO:∀ (l:List Int) (i n:Nat) (x:Fl),x ∈ GK l i n→∃ j m:Nat,j<l.length∧n≤m∧m<n+cnt l∧uV (l.getD j 0)=0∧x=⟨((i+j:Nat):Int),1+(m:Int) / 2,0,(m:Int)%2==1⟩
 | [],_,_,_,h=>by cases h
 | k :: r,i,n,x,h=>by
  rw [GK] at h
  by_cases hb:uV k=0
  ·rw [if_pos hb] at h
   rcases List.mem_cons.1 h with h|h
   ·exact ⟨0,n,by simp,Nat.le_refl _,by rw [cnt,if_pos hb];omega,by simpa using hb,by rw [h];rfl⟩
   ·obtain ⟨j,m,h1,h2,h3,h4,h5⟩:=YO r (i+1) (n+1) x h;exact ⟨j+1,m,by simp only [List.length_cons];omega,by omega,by rw [cnt,if_pos hb];omega,by simpa using h4,by rw [h5];congr 1;omega⟩
  ·rw [if_neg hb] at h;obtain ⟨j,m,h1,h2,h3,h4,h5⟩:=YO r (i+1) n x h;exact ⟨j+1,m,by simp only [List.length_cons];omega,by omega,by rw [cnt,if_neg hb];omega,by simpa using h4,by rw [h5];congr 1;omega⟩
theorem YP:∀ (l:List Int) (i s:Nat) (x:Fl),x ∈ FT l i s→∃ j o:Nat,j<l.length∧s≤o∧o+uV (l.getD j 0)≤s+JZ l∧0<uV (l.getD j 0)∧x=⟨((i+j:Nat):Int),(o:Int),(uV (l.getD j 0):Int),false⟩
 | [],_,_,_,h=>by cases h
 | k :: r,i,s,x,h=>by
  rw [FT] at h
  by_cases hb:0<uV k
  ·rw [if_pos hb] at h
   rcases List.mem_cons.1 h with h|h
   ·refine ⟨0,s,by simp,Nat.le_refl _,?_,by simpa using hb,by rw [h];rfl⟩;simp only [List.getD_cons_zero,JZ];omega
   ·obtain ⟨j,o,h1,h2,h3,h4,h5⟩:=YP r (i+1) (s+uV k) x h;refine ⟨j+1,o,by simp only [List.length_cons];omega,by omega,?_,by simpa using h4,by rw [h5];simp only [List.getD_cons_succ];congr 1;omega⟩;simp only [List.getD_cons_succ,JZ];omega
  ·rw [if_neg hb] at h;obtain ⟨j,o,h1,h2,h3,h4,h5⟩:=YP r (i+1) s x h;refine ⟨j+1,o,by simp only [List.length_cons];omega,by omega,?_,by simpa using h4,by rw [h5];simp only [List.getD_cons_succ];congr 1;omega⟩;simp only [List.getD_cons_succ,JZ];omega
theorem aC8:∀ l:List Int,(∀ x ∈ l,1≤x∧x≤6)→cnt l=regs l
 | [],_=>rfl
 | k :: r,h=>by
  have h1:=h k (List.mem_cons_self ..)
  have h2:=aC8 r (fun x hx=>h x (List.mem_cons_of_mem _ hx))
  rw [cnt,regs,h2]
  congr 1
  unfold uV
  rcases (by omega:k=1∨k=2∨k=3∨k=4∨k=5∨k=6) with rfl|rfl|rfl|rfl|rfl|rfl <;> simp
theorem aKI (l:List Int) (hl:∀ x ∈ l,1≤x∧x≤6) (x:Fl) (hx:x ∈ lay l):0≤x.arg∧x.arg<(l.length:Int)∧1≤x.off∧x.off+x.bytes≤oH l∧x.off<oH l∧x.bytes=(uV (rd l x.arg):Int)∧x.bytes≤4:=by
 have hc:=aC8 l hl
 unfold oH
 rcases List.mem_append.1 hx with hx|hx
 ·obtain ⟨j,m,h1,h2,h3,h4,rfl⟩:=YO l 0 0 x hx
  refine ⟨by simp,by simp;omega,by simp;omega,by simp;omega,by simp;omega,?_,by simp⟩
  simp only [Nat.zero_add,rd,Int.toNat_natCast]
  rw [h4];rfl
 ·obtain ⟨j,o,h1,h2,h3,h4,rfl⟩:=YP l 0 _ x hx
  have h5:=YL (l.getD j 0)
  refine ⟨by dsimp only;omega,by dsimp only;omega,by dsimp only;omega,by dsimp only;omega,by dsimp only;omega,?_,by dsimp only;omega⟩
  simp only [Nat.zero_add,rd,Int.toNat_natCast]
theorem ML (l:List Int) (h:l.length≤4):1≤oH l∧oH l≤19:=by
 have h1:=Xp l
 have h2:=aLj l
 unfold oH
 omega
def ZH (v o:Int):Nat→Nat→List Int→List Int
 | 0,_,code=>code
 | d+1,i,code=>ZH v o d (i+1) (code.set (o+i).toNat (v / 256 ^ i%256))
def VQ (code:List Int) (x:Fl) (v:Int):List Int :=
 if x.bytes>0 then ZH v x.off x.bytes.toNat 0 code
 else if x.high=true then code.set x.off.toNat (Go.bits .or .u8 (Go.bits .and .u8 (rd code x.off) 15) ((wrap64 (v*16))%256))
 else code.set x.off.toNat (Go.bits .or .u8 (Go.bits .and .u8 (rd code x.off) 240) (v%256))
theorem aC9 (v o:Int):∀ (d i:Nat) (code:List Int),(ZH v o d i code).length=code.length
 | 0,_,_=>rfl
 | d+1,i,code=>by rw [ZH,aC9 v o d,List.length_set]
theorem aKJ (code:List Int) (x:Fl) (v:Int):(VQ code x v).length=code.length:=by
 unfold VQ
 split
 ·exact aC9 _ _ _ _ _
 ·split <;> simp
theorem aT4 (v o:Int) (x0 x1 x2:Int) (x3:Bool) (n:Nat) (hn:n≤4) (ho:0≤o) (ho2:o≤1000000):∀ (d k i:Nat) (code:List Int),i+d=n→d<k→o+n≤(code.length:Int) →
  iJ.l0 k code v (n:Int) (i:Int) x0 o x2 x3=some (ZH v o d i code):=by
 intro d
 induction d with
 | zero =>
  intro k i code hi hk hc
  obtain ⟨k,rfl⟩:∃ k',k=k'+1:=⟨k-1,by omega⟩
  rw [iJ.l0,if_neg (show ¬ (i:Int)<(n:Int) by omega),ZH]
 | succ d ih =>
  intro k i code hi hk hc
  obtain ⟨k,rfl⟩:∃ k',k=k'+1:=⟨k-1,by omega⟩
  have hw:wrap64 ((i:Int)+1)=((i+1:Nat):Int):=by unfold wrap64;omega
  have h8:wrap64 (8*(i:Int))=8*(i:Int):=by unfold wrap64;omega
  have ho1:wrap64 (o+(i:Int))=o+(i:Int):=by unfold wrap64;omega
  rw [iJ.l0,if_pos (show (i:Int)<(n:Int) by omega),h8,if_pos (show (0:Int)≤8*(i:Int) by omega),ho1,if_pos (show (0:Int)≤o+(i:Int) by omega),if_pos (show o+(i:Int)<(code.length:Int) by omega),hw,ZH]
  have hs:shr .i64 v (8*(i:Int))=v / 256 ^ i:=by
   unfold shr;have h1:(8*(i:Int)).toNat=8*i:=by omega
   have h2:min (8*i) IntKind.i64.bits=8*i:=by
    have:IntKind.i64.bits=64:=rfl;omega
   rw [h1,h2,Int.pow_mul];rfl
  rw [hs]
  exact ih k (i+1) _ (by omega) (by omega) (by rw [List.length_set];exact hc)
theorem aZa (code:List Int) (x:Fl) (v:Int) (h0:0≤x.off) (h1:x.off<(code.length:Int)) (h2:x.off+x.bytes≤(code.length:Int)) (h3:x.bytes≤4) (h4:x.off≤1000000):iJ.f 10 code x.arg x.off x.bytes x.high v=some (VQ code x v):=by
 unfold iJ.f VQ
 by_cases hb:x.bytes>0
 ·rw [if_pos hb,if_pos hb]
  obtain ⟨n,hn⟩:∃ n:Nat,x.bytes=(n:Int):=⟨x.bytes.toNat,by omega⟩
  rw [hn,Int.toNat_natCast]
  exact aT4 v x.off x.arg x.off _ x.high n (by omega) h0 h4 n 10 0 code (by omega) (by omega) (by omega)
 ·rw [if_neg hb,if_neg hb]
  by_cases hh:x.high=true
  ·rw [if_pos hh,if_pos h0,if_pos h1,if_pos hh]
  ·rw [if_neg hh,if_pos h0,if_pos h1,if_neg hh]
end Go.Proofs.Ytipjpdiianopcaa.Cl
