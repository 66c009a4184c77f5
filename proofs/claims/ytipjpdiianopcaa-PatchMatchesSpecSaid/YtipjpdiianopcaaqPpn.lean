/- Words and contracts for the laws of encode. -/
import Derived.Test.YtipjpdiianopcaaqPpk
import Derived.Test.YtipjpdiianopcaaqCdec
set_option linter.unusedSimpArgs false
namespace Go.Proofs.Ytipjpdiianopcaa.Ppa
open Go.RowKit Go.Proofs.YtipjpdiianopcaaW.dF Go.Proofs.YtipjpdiianopcaaW.fO Go.Proofs.Ytipjpdiianopcaa.A Go.Proofs.Ytipjpdiianopcaa.E Go.Proofs.Ytipjpdiianopcaa.Pure Go.Proofs.Ytipjpdiianopcaa.Cl Go.Proofs.Ytipjpdiianopcaa.Cv Go.Proofs.Ytipjpdiianopcaa.Cby Go.Proofs.Ytipjpdiianopcaa.Cen
set_option linter.unusedVariables false
theorem dl1 (t:List nJ) (c:List Int) (i fi:Int) (nm:ByteArray) (cc:Int) (l:List Int) (hk:∀ x ∈ l,1≤x∧x≤6) (hl:l.length≤1000):∀ (d k j n:Nat),j+d=l.length→n≤j →
  aJ.l1 (k+(d+1)) t c i (n:Int) (j:Int) nm cc l fi=aJ.l2 k t c i 0 ((1+(n+cnt (l.drop j)+1) / 2:Nat):Int) 0 nm cc l fi []:=by
 intro d
 induction d with
 | zero =>
  intro k j n hj hn
  have e1:l.drop j=[]:=List.drop_eq_nil_of_le (by omega)
  rw [aJ.l1,if_neg (by omega),e1,Int.tdiv_eq_ediv_of_nonneg (by omega),Int.tmod_eq_emod_of_nonneg (by omega)]
  have:(wrap64 ((wrap64 (1+(wrap64 ((n:Int) / 2))))+((n:Int)%2)))=((1+(n+cnt []+1) / 2:Nat):Int):=by
   rw [cnt];unfold wrap64;omega
  rw [this]
 | succ d ih =>
  intro k j n hj hn
  have c1:j<l.length:=by omega
  have w1:wrap64 ((j:Int)+1)=((j+1:Nat):Int):=by unfold wrap64;omega
  have w2:wrap64 ((n:Int)+1)=((n+1:Nat):Int):=by unfold wrap64;omega
  have h2:=by0 _ (hk l[j] (List.getElem_mem c1))
  have hx:=hk l[j] (List.getElem_mem c1)
  rw [show k+(d+1+1)=(k+(d+1))+1 by omega,aJ.l1,if_pos (by omega),if_pos (by omega),Nu l j c1,drop_at l j c1,cnt,w1,w2]
  by_cases h:l[j]≤2
  ·rw [if_pos h,if_pos (h2.2 (by omega)),ih k (j+1) (n+1) (by omega) (by omega)];rw [show n+1+cnt (l.drop (j+1))=n+(1+cnt (l.drop (j+1))) by omega]
  ·rw [if_neg h,if_neg (fun hh=>h (by have:=h2.1 hh;omega)),ih k (j+1) n (by omega) (by omega),Nat.zero_add]
theorem aOf (b:Int) (h:0≤b∧b<256):wrap64 (IntKind.i8.wrap b)=sg 128 b:=by
 have:IntKind.i8.wrap b=sg 128 b:=by
  unfold sg
  simp [IntKind.wrap,IntKind.bits,IntKind.signed]
  split <;> split <;> omega
 rw [this]
 unfold sg wrap64
 split <;> omega
theorem aOg (a b:Int) (ha:0≤a∧a<256) (hb:0≤b∧b<256):wrap64 (IntKind.i16.wrap (IntKind.u16.wrap ((IntKind.u16.wrap a)+(IntKind.u16.wrap (256*(IntKind.u16.wrap b))))))=sg 32768 (a+256*b):=by
 have e:∀ x:Int,IntKind.u16.wrap x=x%65536:=fun x=>by simp [IntKind.wrap,IntKind.bits,IntKind.signed]
 have:IntKind.i16.wrap (IntKind.u16.wrap ((IntKind.u16.wrap a)+(IntKind.u16.wrap (256*(IntKind.u16.wrap b)))))=sg 32768 (a+256*b):=by
  rw [e,e,e,e]
  have e2:(a%65536+256*(b%65536)%65536)%65536=a+256*b:=by omega
  rw [e2]
  unfold sg
  simp [IntKind.wrap,IntKind.bits,IntKind.signed]
  split <;> split <;> omega
 rw [this]
 unfold sg wrap64
 split <;> omega
theorem wd (n:Nat) (h:n≤10000000):wrap64 (1+(wrap64 (Int.tdiv (n:Int) 2)))=((1+n / 2:Nat):Int):=by
 rw [Int.tdiv_eq_ediv_of_nonneg (by omega)];unfold wrap64;omega
theorem tm2 (n:Nat):Int.tmod (n:Int) 2=((n%2:Nat):Int):=by
 rw [Int.tmod_eq_emod_of_nonneg (by omega)];omega
theorem bNC (a b c d:Int) (ha:0≤a∧a<256) (hb:0≤b∧b<256) (hc:0≤c∧c<256) (hd:0≤d∧d<256):wrap64 ((wrap64 ((wrap64 ((wrap64 a)+(wrap64 (256*(wrap64 b)))))+(wrap64 (65536*(wrap64 c)))))+(wrap64 (16777216*(wrap64 d))))=a+256*b+65536*c+16777216*d:=by
 rw [wsm a (by omega) (by omega),wsm b (by omega) (by omega),wsm c (by omega) (by omega),wsm d (by omega) (by omega),wsm (256*b) (by omega) (by omega),wsm (65536*c) (by omega) (by omega),wsm (16777216*d) (by omega) (by omega),wsm (a+256*b) (by omega) (by omega),wsm (a+256*b+65536*c) (by omega) (by omega),wsm _ (by omega) (by omega)]
def tail (k:Nat) (t:List nJ) (c:List Int) (i fi:Int) (nm:ByteArray) (cc:Int) (l G:List Int):Option (Int × List Int × Bool) :=
 ((eU.f k t fi G).bind fun aKO=>(if aKO.1=0 then ((aV.f k nm cc l G).bind fun Tj=>((bJ.f k nm cc l).bind fun BD=>(if 0≤BD then (if BD≤(c.length:Int) then ((bF.f Tj (c.take (BD:Int).toNat)).bind fun VR=>(if VR=true then (some (fi,G,true)) else (aJ.l0 k t c (wrap64 (i+1))))) else (none)) else (none)))) else (aJ.l0 k t c (wrap64 (i+1)))))
theorem bND (k:Nat) (t:List nJ) (c:List Int) (hc:Bt c) (i fi:Int) (n j:Nat) (o x:Int) (nm:ByteArray) (cc:Int) (l acc:List Int) (hn:n≤1000) (hj:j≤1000) (ha:acc.length≤1000) (h1:1+n / 2<c.length) :
  aJ.j4 (k+1) t c i (n:Int) o (j:Int) 0 x true nm cc l fi acc=aJ.l2 k t c i ((n+1:Nat):Int) o ((j+1:Nat):Int) nm cc l fi (acc ++ [nib c n]):=by
 have b:=vG hc ((1+n / 2:Nat):Int)
 have e1:wrap64 ((n:Int)+1)=((n+1:Nat):Int):=ws n 1 (by omega) (by omega)
 have e2:wrap64 ((j:Int)+1)=((j+1:Nat):Int):=ws j 1 (by omega) (by omega)
 have e3:=wd n (by omega)
 have e4:=tm2 n
 have c1:(0:Int)≤((1+n / 2:Nat):Int):=by omega
 have c2:((1+n / 2:Nat):Int)<(c.length:Int):=by omega
 have c3:acc.length<17592186044416:=by omega
 rw [aJ.j4,if_pos rfl,e3,if_pos c1,if_pos c2,if_pos c3,if_pos c3,e1,e2,e4]
 unfold nib
 rw [wsm _ (by omega) (by omega),Int.tmod_eq_emod_of_nonneg b.1,Int.tdiv_eq_ediv_of_nonneg b.1,wsm _ (by omega) (by omega)]
 by_cases hp:n%2=0
 ·rw [if_pos hp,if_pos (by omega)]
 ·rw [if_neg hp,if_neg (by omega)]
theorem bNE (k:Nat) (t:List nJ) (c:List Int) (hc:Bt c) (i fi:Int) (n:Int) (j o:Nat) (x:Int) (nm:ByteArray) (cc:Int) (l acc:List Int) (ho:o≤1000000) (hj:j≤1000) (ha:acc.length≤1000) (h1:o<c.length) :
  aJ.j5 (k+1) t c i n (o:Int) (j:Int) 0 x true nm cc l fi acc=aJ.l2 k t c i n ((o+1:Nat):Int) ((j+1:Nat):Int) nm cc l fi (acc ++ [sg 128 (rd c (o:Int))]):=by
 have e1:wrap64 ((o:Int)+1)=((o+1:Nat):Int):=ws o 1 (by omega) (by omega)
 have e2:wrap64 ((j:Int)+1)=((j+1:Nat):Int):=ws j 1 (by omega) (by omega)
 have c1:(0:Int)≤(o:Int):=by omega
 have c2:(o:Int)<(c.length:Int):=by omega
 have c3:acc.length<17592186044416:=by omega
 rw [aJ.j5,if_pos rfl,if_pos c1,if_pos c2,if_pos c3,e1,e2,aOf _ (vG hc _)]
theorem bNF (k:Nat) (t:List nJ) (c:List Int) (hc:Bt c) (i fi:Int) (n:Int) (j o:Nat) (nm:ByteArray) (cc:Int) (l acc:List Int) (ho:o≤1000000) (hj:j≤1000) (ha:acc.length≤1000) (h1:o+1<c.length) :
  aJ.j5 (k+1) t c i n (o:Int) (j:Int) 0 6 false nm cc l fi acc=aJ.l2 k t c i n ((o+2:Nat):Int) ((j+1:Nat):Int) nm cc l fi (acc ++ [sg 32768 (rd c (o:Int)+256*rd c ((o+1:Nat):Int))]):=by
 have e1:wrap64 ((o:Int)+1)=((o+1:Nat):Int):=ws o 1 (by omega) (by omega)
 have e3:wrap64 ((o:Int)+2)=((o+2:Nat):Int):=ws o 2 (by omega) (by omega)
 have e2:wrap64 ((j:Int)+1)=((j+1:Nat):Int):=ws j 1 (by omega) (by omega)
 have c1:(0:Int)≤(o:Int):=by omega
 have c2:(o:Int)<(c.length:Int):=by omega
 have c4:(0:Int)≤((o+1:Nat):Int):=by omega
 have c5:((o+1:Nat):Int)<(c.length:Int):=by omega
 have c3:acc.length<17592186044416:=by omega
 rw [aJ.j5,if_neg (by decide),if_pos rfl,if_pos c1,if_pos c2,e1,if_pos c4,if_pos c5,if_pos c3,e3,e2,aOg _ _ (vG hc _) (vG hc _)]
theorem bNA (k:Nat) (t:List nJ) (c:List Int) (hc:Bt c) (i fi:Int) (n:Int) (j o:Nat) (nm:ByteArray) (cc:Int) (l acc:List Int) (ho:o≤1000000) (hj:j≤1000) (ha:acc.length≤1000) (h1:o+3<c.length) :
  aJ.j5 (k+1) t c i n (o:Int) (j:Int) 0 4 false nm cc l fi acc=aJ.l2 k t c i n ((o+4:Nat):Int) ((j+1:Nat):Int) nm cc l fi (acc ++ [rd c (o:Int)+256*rd c ((o+1:Nat):Int)+65536*rd c ((o+2:Nat):Int)+16777216*rd c ((o+3:Nat):Int)]):=by
 have e1:wrap64 ((o:Int)+1)=((o+1:Nat):Int):=ws o 1 (by omega) (by omega)
 have e3:wrap64 ((o:Int)+2)=((o+2:Nat):Int):=ws o 2 (by omega) (by omega)
 have e4:wrap64 ((o:Int)+3)=((o+3:Nat):Int):=ws o 3 (by omega) (by omega)
 have e5:wrap64 ((o:Int)+4)=((o+4:Nat):Int):=ws o 4 (by omega) (by omega)
 have e2:wrap64 ((j:Int)+1)=((j+1:Nat):Int):=ws j 1 (by omega) (by omega)
 have c1:(0:Int)≤(o:Int):=by omega
 have c2:(o:Int)<(c.length:Int):=by omega
 have c4:(0:Int)≤((o+1:Nat):Int):=by omega
 have c5:((o+1:Nat):Int)<(c.length:Int):=by omega
 have c6:(0:Int)≤((o+2:Nat):Int):=by omega
 have c7:((o+2:Nat):Int)<(c.length:Int):=by omega
 have c8:(0:Int)≤((o+3:Nat):Int):=by omega
 have c9:((o+3:Nat):Int)<(c.length:Int):=by omega
 have c3:acc.length<17592186044416:=by omega
 rw [aJ.j5,if_neg (by decide),if_neg (by decide),if_pos rfl,if_pos c1,if_pos c2,e1,if_pos c4,if_pos c5,e3,if_pos c6,if_pos c7,e4,if_pos c8,if_pos c9,if_pos c3,e5,e2,bNC _ _ _ _ (vG hc _) (vG hc _) (vG hc _) (vG hc _)]
theorem bNB (k:Nat) (t:List nJ) (c:List Int) (hc:Bt c) (i fi:Int) (n j o:Nat) (x:Int) (nm:ByteArray) (cc:Int) (l acc:List Int) (hn:n≤1000) (ho:o≤1000000) (hj:j≤1000) (ha:acc.length≤1000) (hx:1≤x∧x≤6)
  (h1:uV x=0→1+n / 2<c.length) (h2:o+uV x≤c.length) (hjl:j<l.length) (hr:rd l (j:Int)=x) :
  ∃ k',k≤k'∧aJ.l2 (k+3) t c i (n:Int) (o:Int) (j:Int) nm cc l fi acc=aJ.l2 k' t c i ((if uV x=0 then n+1 else n:Nat):Int) ((o+uV x:Nat):Int) ((j+1:Nat):Int) nm cc l fi (acc ++ [if uV x=0 then nib c n else bv c x o])∧k'≤k+1:=by
 have c1:(j:Int)<(l.length:Int):=by omega
 have c2:(0:Int)≤(j:Int):=by omega
 rw [aJ.l2,if_pos c1,if_pos c2,hr]
 by_cases h12:x=1∨x=2
 ·have hz:=(by0 x hx).2 h12
  have e:=bND (k+1) t c hc i fi n j o x nm cc l acc hn hj ha (h1 hz)
  refine ⟨k+1,by omega,?_,by omega⟩
  rw [if_pos hz,if_pos hz,show o+uV x=o by omega]
  by_cases hx1:x=1
  ·rw [if_pos hx1,show (x==1)=true by rw [hx1];rfl];exact e
  ·rw [if_neg hx1,show (x==2)=true by rw [show x=2 by omega];rfl];exact e
 ·have hz:¬ uV x=0:=fun h=>h12 ((by0 x hx).1 h)
  refine ⟨k,by omega,?_,by omega⟩
  rw [if_neg hz,if_neg hz,if_neg (fun h=>h12 (Or.inl h)),show (x==2)=false by rw [aLd];omega,aJ.j4,if_neg (by decide)]
  by_cases h35:x=3∨x=5
  ·have hy:uV x=1:=by unfold uV;rw [if_pos h35]
   rw [hy] at h2 ⊢;have e:=bNE k t c hc i fi n j o x nm cc l acc ho hj ha (by omega);unfold bv;rw [if_pos h35]
   by_cases hx3:x=3
   ·rw [if_pos hx3,show (x==3)=true by rw [hx3];rfl];exact e
   ·rw [if_neg hx3,show (x==5)=true by rw [show x=5 by omega];rfl];exact e
  ·rw [if_neg (show ¬ x=3 by omega),show (x==5)=false by rw [aLd];omega];unfold bv;rw [if_neg h35]
   by_cases h6:x=6
   ·subst h6;rw [show uV 6=2 from rfl] at h2 ⊢;rw [if_pos rfl];exact bNF k t c hc i fi n j o nm cc l acc ho hj ha (by omega)
   ·have h4:x=4:=by omega
    subst h4;rw [show uV 4=4 from rfl] at h2 ⊢;rw [if_neg (by decide)];exact bNA k t c hc i fi n j o nm cc l acc ho hj ha (by omega)
theorem dl2 (t:List nJ) (c:List Int) (hc:Bt c) (hcl:c.length≤1000000) (i fi:Int) (nm:ByteArray) (cc:Int) (l:List Int) (hk:∀ x ∈ l,1≤x∧x≤6) (hl:l.length≤1000):∀ (d k j n o:Nat) (acc:List Int),j+d=l.length→n≤j→acc.length=j→1+(n+cnt (l.drop j)+1) / 2≤c.length→o+JZ (l.drop j)≤c.length→3*d<k →
  ∃ k',k≤k'+(3*d+1)∧aJ.l2 k t c i (n:Int) (o:Int) (j:Int) nm cc l fi acc=tail k' t c i fi nm cc l (acc ++ gs c (l.drop j) n o):=by
 intro d
 induction d with
 | zero =>
  intro k j n o acc hj hn ha h1 h2 hkk
  obtain ⟨k,rfl⟩:∃ k',k=k'+1:=⟨k-1,by omega⟩
  have e1:l.drop j=[]:=List.drop_eq_nil_of_le (by omega)
  have c1:¬ (j:Int)<(l.length:Int):=by omega
  refine ⟨k,by omega,?_⟩
  rw [aJ.l2,if_neg c1,e1,gs,List.append_nil]
  rfl
 | succ d ih =>
  intro k j n o acc hj hn ha h1 h2 hkk
  obtain ⟨k,rfl⟩:∃ k',k=k'+3:=⟨k-3,by omega⟩
  have c1:j<l.length:=by omega
  have hx:=hk l[j] (List.getElem_mem c1)
  have hr:=Nu l j c1
  rw [drop_at l j c1,cnt] at h1
  rw [drop_at l j c1,JZ] at h2
  rw [drop_at l j c1,gs]
  generalize l[j]=x at hx hr h1 h2 ⊢
  obtain ⟨k1,hk1,e,hk2⟩:=bNB k t c hc i fi n j o x nm cc l acc (by omega) (by omega) (by omega) (by omega) hx (fun h=>by rw [if_pos h] at h1;omega) (by omega) c1 hr
  rw [e]
  by_cases h:uV x=0
  ·rw [if_pos h] at h1;rw [if_pos h,if_pos h,if_pos h,show o+uV x=o by omega];rw [h] at h2;obtain ⟨k',hk',e2⟩:=ih k1 (j+1) (n+1) o (acc ++ [nib c n]) (by omega) (by omega) (by simp [ha]) (by omega) (by omega) (by omega);refine ⟨k',by omega,?_⟩;rw [e2,List.append_assoc,List.cons_append,List.nil_append]
  ·rw [if_neg h] at h1;rw [if_neg h,if_neg h,if_neg h];obtain ⟨k',hk',e2⟩:=ih k1 (j+1) n (o+uV x) (acc ++ [bv c x o]) (by omega) (by omega) (by simp [ha]) (by omega) (by omega) (by omega);refine ⟨k',by omega,?_⟩;rw [e2,List.append_assoc,List.cons_append,List.nil_append]
theorem bNe {t:List nJ} (h:Valid t) (c:List Int) (hc:Bt c) (h0:0<c.length) (hcl:c.length≤1000000) (m:Nat) (hm:m<t.length) (k:Nat) (hk:400000≤k) :
  (good t c m→aJ.l0 k t c (m:Int)=some ((m:Int),guess c (aI t m).f2,true))∧(¬ good t c m→∃ k',k≤k'+100∧aJ.l0 k t c (m:Int)=aJ.l0 k' t c ((m+1:Nat):Int)):=by
 have ht:=h.len
 have hf:=h.form (m:Int) (by omega) (by omega)
 have bM2:=hf.2.2.2.2
 have hb:=vG hc 0
 obtain ⟨k,rfl⟩:∃ k',k=k'+50:=⟨k-50,by omega⟩
 have hw:wrap64 (rd c 0)=rd c 0:=wsm _ (by omega) (by omega)
 have wm:wrap64 ((m:Int)+1)=((m+1:Nat):Int):=ws m 1 (by omega) (by omega)
 have hsz:=aEH (aI t m).f0 (aI t m).f1 (aI t m).f2 (by omega) (k+49) (by omega)
 have hins:=bAD t (m:Int) (guess c (aI t m).f2) (by omega) (by rw [bMJ];omega) (fun f hf=>by have:=(aAm h f hf).1;omega)
 have hse:=size_eq _ bM2
 have ha1:(m:Int)<(t.length:Int):=by omega
 have ha2:(0:Int)≤(m:Int):=by omega
 have ha3:¬ (c.length:Int)=0:=by omega
 have ha4:(0:Int)<(c.length:Int):=by omega
 have skip:aJ.j1 (k+49) t c (m:Int) true (aI t m).f0 (aI t m).f1 (aI t m).f2=aJ.l0 (k+48) t c ((m+1:Nat):Int):=by
  rw [aJ.j1,if_pos rfl,wm]
 rw [show k+50=(k+49)+1 from rfl,aJ.l0,if_pos ha1,if_pos ha2,if_neg ha3,if_pos ha4,hw,hsz,Option.bind_some]
 by_cases c1:(aI t m).f1=rd c 0
 ·rw [if_pos c1]
  by_cases c2:oH (aI t m).f2≤(c.length:Int)
  ·have hd:decide ((c.length:Int)<oH (aI t m).f2)=false:=kT (by omega);have hlen:(aI t m).f2.length≤4:=hf.2.2.2.1;have e1:=dl1 t c (m:Int) (m:Int) (aI t m).f0 (aI t m).f1 (aI t m).f2 bM2 (by omega) (aI t m).f2.length (k+47-(aI t m).f2.length) 0 0 (by omega) (by omega);rw [List.drop_zero,Nat.zero_add,show k+47-(aI t m).f2.length+((aI t m).f2.length+1)=k+48 by omega] at e1;obtain ⟨k',hk',e2⟩:=dl2 t c hc hcl (m:Int) (m:Int) (aI t m).f0 (aI t m).f1 (aI t m).f2 bM2 (by omega) (aI t m).f2.length (k+47-(aI t m).f2.length) 0 0 (1+(cnt (aI t m).f2+1) / 2) [] (by omega) (by omega) rfl (by rw [List.drop_zero,Nat.zero_add];omega) (by rw [List.drop_zero];omega) (by omega);rw [List.drop_zero,List.nil_append] at e2;have e3:aJ.j1 (k+49) t c (m:Int) false (aI t m).f0 (aI t m).f1 (aI t m).f2=tail k' t c (m:Int) (m:Int) (aI t m).f0 (aI t m).f1 (aI t m).f2 (guess c (aI t m).f2):=by
    rw [aJ.j1,if_neg (by decide)];exact e1.trans e2
   have e4:=aT5 (aI t m).f0 (aI t m).f1 (aI t m).f2 (guess c (aI t m).f2) (bMJ _ _) (by omega) k' (by omega);have e5:=aEH (aI t m).f0 (aI t m).f1 (aI t m).f2 (by omega) k' (by omega);have e6:=aUr (EI (aI t m).f1 (aI t m).f2 (guess c (aI t m).f2)) (c.take (oH (aI t m).f2).toNat) (aLu _ _ _) (hc.take _);have hz:(0:Int)≤oH (aI t m).f2:=by omega
   rw [hd,e3];unfold tail;rw [hins k' (by omega),Option.bind_some]
   by_cases c3:(GM t m (guess c (aI t m).f2)).1=0
   ·rw [if_pos c3,e4,Option.bind_some,e5,Option.bind_some,if_pos hz,if_pos c2,e6,Option.bind_some,wm]
    by_cases c4:EI (aI t m).f1 (aI t m).f2 (guess c (aI t m).f2)=c.take (oH (aI t m).f2).toNat
    ·rw [fB c4,if_pos rfl];exact ⟨fun _=>rfl,fun hn=>absurd ⟨c1,c2,c3,c4⟩ hn⟩
    ·rw [kT c4,if_neg (by decide)];exact ⟨fun hg=>absurd hg.2.2.2 c4,fun _=>⟨k',by omega,rfl⟩⟩
   ·rw [if_neg c3,wm];exact ⟨fun hg=>absurd hg.2.2.1 c3,fun _=>⟨k',by omega,rfl⟩⟩
  ·have hd:decide ((c.length:Int)<oH (aI t m).f2)=true:=fB (by omega);rw [hd,skip];exact ⟨fun hg=>absurd hg.2.1 c2,fun _=>⟨k+48,by omega,rfl⟩⟩
 ·rw [if_neg c1,skip]
  exact ⟨fun hg=>absurd hg.1 c1,fun _=>⟨k+48,by omega,rfl⟩⟩
theorem bNs (t:List nJ) (c:List Int) (k:Nat) (hk:0<k) (i:Int) (hi:¬ i<(t.length:Int)):aJ.l0 k t c i=some (0,[],false):=by
 obtain ⟨k,rfl⟩:∃ k',k=k'+1:=⟨k-1,by omega⟩
 rw [aJ.l0,if_neg hi]
theorem bNp {t:List nJ} (h:Valid t) (c:List Int) (hc:Bt c) (h0:0<c.length) (hcl:c.length≤1000000):∀ (d m k:Nat),m+d=t.length→400000+100*d≤k→(∀ j,m≤j→j<t.length→¬ good t c j)→aJ.l0 k t c (m:Int)=some (0,[],false):=by
 intro d
 induction d with
 | zero=>intro m k hm hk _;exact bNs t c k (by omega) _ (by omega)
 | succ d ih =>
  intro m k hm hk hn
  obtain ⟨k',hk',e⟩:=(bNe h c hc h0 hcl m (by omega) k (by omega)).2 (hn m (Nat.le_refl _) (by omega))
  rw [e]
  exact ih (m+1) k' (by omega) (by omega) (fun j h1 h2=>hn j (by omega) h2)
theorem bNq {t:List nJ} (h:Valid t) (c:List Int) (hc:Bt c) (h0:0<c.length) (hcl:c.length≤1000000) (j:Nat) (hj:j<t.length) (hg:good t c j):∀ (d m k:Nat),m+d=j→400000+100*d≤k→(∀ i,m≤i→i<j→¬ good t c i)→aJ.l0 k t c (m:Int)=some ((j:Int),guess c (aI t j).f2,true):=by
 intro d
 induction d with
 | zero =>
  intro m k hm hk _
  have:m=j:=by omega
  subst this
  exact (bNe h c hc h0 hcl m hj k (by omega)).1 hg
 | succ d ih =>
  intro m k hm hk hn
  obtain ⟨k',hk',e⟩:=(bNe h c hc h0 hcl m (by omega) k (by omega)).2 (hn m (Nat.le_refl _) (by omega))
  rw [e]
  exact ih (m+1) k' (by omega) (by omega) (fun i h1 h2=>hn i (by omega) h2)
theorem bMW {t:List nJ} (h:Valid t) (c:List Int) (hc:Bt c) (h0:0<c.length) (hcl:c.length≤1000000) (k:Nat) (hk:big k) (hn:∀ j,j<t.length→¬ good t c j):aJ.f k t c=some (0,[],false):=by
 have ht:=h.len
 exact bNp h c hc h0 hcl t.length 0 k (by omega) (by unfold big at hk;omega) (fun j _ hj=>hn j hj)
theorem bMX {t:List nJ} (h:Valid t) (c:List Int) (hc:Bt c) (h0:0<c.length) (hcl:c.length≤1000000) (k:Nat) (hk:big k) (j:Nat) (hj:j<t.length) (hg:good t c j):aJ.f k t c=some ((j:Int),guess c (aI t j).f2,true):=by
 have ht:=h.len
 exact bNq h c hc h0 hcl j hj hg j 0 k (by omega) (by unfold big at hk;omega) (fun i _ hi hgi=>bMR h i j hi hj (hgi.1.trans hg.1.symm))
end Go.Proofs.Ytipjpdiianopcaa.Ppa
