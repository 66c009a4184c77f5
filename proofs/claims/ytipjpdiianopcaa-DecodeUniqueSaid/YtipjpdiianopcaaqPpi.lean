/- Words and contracts for the laws of encode. -/
import Derived.Test.YtipjpdiianopcaaqPph
set_option linter.unusedSimpArgs false
namespace Go.Proofs.Ytipjpdiianopcaa.Ppa
open Go.RowKit Go.Proofs.YtipjpdiianopcaaW.dF Go.Proofs.YtipjpdiianopcaaW.fO Go.Proofs.Ytipjpdiianopcaa.A Go.Proofs.Ytipjpdiianopcaa.E Go.Proofs.Ytipjpdiianopcaa.Pure Go.Proofs.Ytipjpdiianopcaa.Cl Go.Proofs.Ytipjpdiianopcaa.Cby Go.Proofs.Ytipjpdiianopcaa.Cen
set_option linter.unusedVariables false
theorem aDe (s:ByteArray):∀ (d i:Nat) (r:List UInt8),s.size-i=d→ByteArray.toList.loop s i r=r.reverse ++ s.data.toList.drop i:=by
 intro d
 induction d with
 | zero =>
  intro i r h
  unfold ByteArray.toList.loop
  rw [if_neg (by omega),List.drop_eq_nil_of_le (by rw [Array.length_toList];show s.size≤i;omega),List.append_nil]
 | succ d ih =>
  intro i r h
  unfold ByteArray.toList.loop
  rw [if_pos (by omega),ih (i+1) _ (by omega)]
  have hl:i<s.data.toList.length:=by rw [Array.length_toList];show i<s.size;omega
  rw [List.drop_eq_getElem_cons hl,List.reverse_cons,List.append_assoc]
  have hg:s.get! i=s.data.toList[i]:=by
   have hl':i<s.data.size:=by rw [Array.length_toList] at hl;exact hl
   cases s with
   | mk d=>simp only [ByteArray.get!];rw [getElem!_pos d i hl'];simp
  rw [hg];rfl
theorem TK (l:List Int):(strOfNums l).toList=l.map fun n=>UInt8.ofNat n.toNat:=by
 rw [← strOfNums_data]
 unfold ByteArray.toList
 rw [aDe (strOfNums l) ((strOfNums l).size-0) 0 [] rfl];simp
theorem aAp (l:List Int) (hl:Bt l):(l.map fun n=>UInt8.ofNat n.toNat).map (fun b:UInt8=>(b.toNat:Int))=l:=by
 rw [List.map_map]
 have:∀ x ∈ l,((fun b:UInt8=>(b.toNat:Int)) ∘ fun n:Int=>UInt8.ofNat n.toNat) x=x:=by
  intro x hx
  have h:=hl x hx
  show ((UInt8.ofNat x.toNat).toNat:Int)=x
  rw [UInt8.toNat_ofNat'];omega
 rw [List.map_congr_left this];simp
theorem aUr (a b:List Int) (ha:Bt a) (hb:Bt b):bF.f a b=some (decide (a=b)):=by
 unfold bF.f
 congr 1
 by_cases e:a=b
 ·subst e;simp
 ·rw [kT e]
  refine beq_eq_false_iff_ne.2 fun h=>e ?_
  rw [TK,TK] at h
  rw [← aAp a ha,← aAp b hb,h]
theorem Bt.take {b:List Int} (h:Bt b) (n:Nat):Bt (b.take n):=fun x hx=>h x (List.mem_of_mem_take hx)
theorem Bt.drop {b:List Int} (h:Bt b) (n:Nat):Bt (b.drop n):=fun x hx=>h x (List.mem_of_mem_drop hx)
theorem Ko (a:List Int) (m j:Nat) (h:j<m):rd (a.take m) (j:Int)=rd a (j:Int):=by
 unfold rd
 rw [Int.toNat_natCast,List.getD_eq_getElem?_getD,List.getD_eq_getElem?_getD,List.getElem?_take_of_lt h]
theorem aBx (a:List Int) (m:Nat):∀ (l:List Int) (n o:Nat),(∀ x ∈ l,1≤x∧x≤6)→1+(n+cnt l+1) / 2≤m→o+JZ l≤m→gs (a.take m) l n o=gs a l n o
 | [],_,_,_,_,_=>rfl
 | k :: l,n,o,hk,h1,h2=>by
  have hr:∀ x ∈ l,1≤x∧x≤6:=fun x hx=>hk x (List.mem_cons_of_mem _ hx)
  rw [cnt] at h1
  rw [JZ] at h2
  rw [gs,gs]
  by_cases c:uV k=0
  ·rw [if_pos c] at h1;rw [if_pos c,if_pos c,aBx a m l (n+1) o hr (by omega) (by omega)]
   congr 1
   unfold nib;rw [Ko a m _ (by omega)]
  ·rw [if_neg c] at h1;rw [if_neg c,if_neg c,aBx a m l n (o+uV k) hr (by omega) (by omega)]
   congr 1
   unfold bv
   by_cases Jn:k=3∨k=5
   ·have hy:uV k=1:=by unfold uV;rw [if_pos Jn]
    rw [if_pos Jn,if_pos Jn,Ko a m o (by omega)]
   ·rw [if_neg Jn,if_neg Jn]
    by_cases c6:k=6
    ·have hy:uV k=2:=by unfold uV;rw [if_neg Jn,if_pos c6]
     rw [if_pos c6,if_pos c6,Ko a m o (by omega),Ko a m (o+1) (by omega)]
    ·rw [if_neg c6,if_neg c6];have c4:k=4:=by
      unfold uV at c;rw [if_neg Jn,if_neg c6] at c
      by_cases c4:k=4
      ·exact c4
      ·rw [if_neg c4] at c;exact absurd rfl c
     have hy:uV k=4:=by unfold uV;rw [if_neg Jn,if_neg c6,if_pos c4]
     rw [Ko a m o (by omega),Ko a m (o+1) (by omega),Ko a m (o+2) (by omega),Ko a m (o+3) (by omega)]
theorem aUi (a l:List Int) (hk:∀ x ∈ l,1≤x∧x≤6):guess (a.take (oH l).toNat) l=guess a l:=by
 have hr:=Lu l hk
 unfold guess oH
 rw [Int.toNat_natCast,hr]
 exact aBx a _ l 0 _ hk (by omega) (by omega)
theorem wsm (x:Int) (h0:-1000000000000≤x) (h1:x≤1000000000000):wrap64 x=x:=by unfold wrap64;omega
theorem ws (n a:Nat) (h:n≤10000000) (ha:a≤100):wrap64 ((n:Int)+(a:Int))=((n+a:Nat):Int):=by unfold wrap64;omega
end Go.Proofs.Ytipjpdiianopcaa.Ppa
