/- Words and contracts for the laws of encode. -/
import Derived.Test.YtipjpdiianopcaaqPpk
import Derived.Test.YtipjpdiianopcaaqBn9
set_option linter.unusedSimpArgs false
namespace Go.Proofs.Ytipjpdiianopcaa.Pure
open Go.RowKit Go.Proofs.YtipjpdiianopcaaW.dF Go.Proofs.YtipjpdiianopcaaW.fO Go.Proofs.Ytipjpdiianopcaa.A Go.Proofs.Ytipjpdiianopcaa.E Go.Proofs.Ytipjpdiianopcaa.Cl Go.Proofs.Ytipjpdiianopcaa.Cen Go.Proofs.Ytipjpdiianopcaa.Ppa
set_option linter.unusedVariables false
theorem bNu {k:Nat} (t:List nJ) (code:List Int) (p arg v e1 e2:Int) (he:e1≠0) (h:fA.f k t code p=some (0,[],0,e1,e2)):eH.f k t code p arg v=some ([],e1,e2):=bMI t code p arg v e1 e2 he h
theorem bMM (t:List nJ) (code:List Int) (p arg a b e1 e2:Int) (he:e1≠0) (k:Nat) (hk:big k) (h:fA.f (k+1) t code p=some (0,[],0,e1,e2)):dJ.f (k+1) t code p arg a b=some true:=by
 have hk2:big (k+1):=by unfold big at *;omega
 unfold dJ.f
 rw [VU hk2,Option.bind_some,if_pos rfl,h,Option.bind_some,bMI t code p arg a e1 e2 he h,Option.bind_some,bMI t code p arg b e1 e2 he h,Option.bind_some,if_neg he,dJ.j0,if_pos rfl,if_neg he]
 rfl
theorem bM7 (t:List nJ) (hsz:∀ f ∈ t,NK.GL f) (code:List Int) (hb:Bt code) (p arg a b:Int) (k:Nat) (hk:big k):dJ.f (k+1) t code p arg a b=some true:=by
 have hk2:big (k+1):=by unfold big at *;omega
 by_cases hv:Valid t
 ·have ht:=hv.len
  by_cases hl:(code.length:Int)>1500
  ·exact bMM t code p arg a b 2 (-4) (by decide) k hk (bMK hsz hk2 code p hv hl)
  ·by_cases hp:0≤p∧p<(code.length:Int)
   ·by_cases hg:∃ m,m<t.length∧good t (code.drop p.toNat) m
    ·obtain ⟨m,hm,hg⟩:=hg;have hf:=hv.form (m:Int) (by omega) (by omega);have bM2:=hf.2.2.2.2;have hd2:=bMH hsz hk2 code hb p hv hl hp.1 hp.2 m hm hg;have hd:=bMH hsz hk code hb p hv hl hp.1 hp.2 m hm hg;have hfit:=bM4 hp.1 hp.2 hg;have hins:=hg.2.2.1;have hself:=bNg hv code p hp.1 hp.2 m hm hg;have hgl:=bMJ (code.drop p.toNat) (aI t m).f2;have hse:=size_eq _ bM2;generalize guess (code.drop p.toNat) (aI t m).f2=G at hd hd2 hins hgl hself;have h4:=hf.2.2.2.1;have hw:wrap64 ((G.length:Int)-1)=(G.length:Int)-1:=wsm _ (by omega) (by omega);unfold dJ.f;rw [VU hk2,Option.bind_some,if_pos rfl,hd2,Option.bind_some]
     by_cases ha:0≤arg∧arg<(G.length:Int)
     ·obtain ⟨n,rfl⟩:=Int.eq_ofNat_of_zero_le ha.1;have bNl:(decide ((0:Int)≤(n:Int))&&decide ((n:Int)≤(G.length:Int)-1))=true:=by
       rw [fB ha.1,fB (show (n:Int)≤(G.length:Int)-1 by omega)];rfl
      by_cases hra:Cat.Vt (rd (aI t m).f2 (n:Int)) a=true
      ·rw [bMN hk2 hv code p hp.1 hl n a m G hd2 hm hins hfit (by omega) hra,Option.bind_some]
       by_cases hrb:Cat.Vt (rd (aI t m).f2 (n:Int)) b=true
       ·have hia:=bNf t m G n a hins (by omega) hra;have hca:=aIt (aI t m).f1 (aI t m).f2 (G.set n a) bM2 (by rw [List.length_set];exact hgl);have hlen:=bM6 code p (oH (aI t m).f2) (EI (aI t m).f1 (aI t m).f2 (G.set n a)) hp.1 (by omega) hfit hca;have hdr:=bMZ code p (oH (aI t m).f2) (EI (aI t m).f1 (aI t m).f2 (G.set n a)) hp.1 (by omega);have hgo:=bNk hv m hm (G.set n a) (code.drop (p+oH (aI t m).f2).toNat) hia;have hda:=bMH hsz hk (bMG code p (oH (aI t m).f2) (EI (aI t m).f1 (aI t m).f2 (G.set n a))) (bNj _ _ hb (aLu _ _ _)) p hv (by rw [hlen];exact hl) hp.1 (by rw [hlen];exact hp.2) m hm (by rw [hdr];exact hgo.1);rw [hdr,hgo.2] at hda;have hrg:Cat.Vt (rd (aI t m).f2 (n:Int)) (rd G (n:Int))=true:=by
         obtain ⟨_,_,_,h5,h6⟩:=OC t m G hins;have:=aHb _ _ 0 h6 h5 n (by omega);rw [Nu _ n (by omega)];exact this
        have hpb:=bMN hk hv (bMG code p (oH (aI t m).f2) (EI (aI t m).f1 (aI t m).f2 (G.set n a))) p hp.1 (by rw [hlen];exact hl) n b m (G.set n a) hda hm hia (by rw [hlen];exact hfit) (by rw [List.length_set];omega) hrb;have hpo:=bMN hk hv (bMG code p (oH (aI t m).f2) (EI (aI t m).f1 (aI t m).f2 (G.set n a))) p hp.1 (by rw [hlen];exact hl) n (rd G (n:Int)) m (G.set n a) hda hm hia (by rw [hlen];exact hfit) (by rw [List.length_set];omega) hrg;rw [bM_ code p _ _ _ hp.1 (by omega) hfit hca,List.set_set] at hpb hpo;have hgs:G.set n (rd G (n:Int))=G:=by
         rw [Nu G n (by omega)];exact List.set_getElem_self _
        rw [hgs,hself] at hpo;rw [bMN hk2 hv code p hp.1 hl n b m G hd2 hm hins hfit (by omega) hrb,Option.bind_some,if_pos rfl,if_pos rfl,if_pos rfl,hw,aIs,Option.bind_some,bNl,dJ.j0,if_neg (by decide),hpb,Option.bind_some,if_pos ha.1,if_pos ha.2,hpo,Option.bind_some,if_pos rfl,if_pos rfl,bMP,Option.bind_some,if_pos rfl,bMP,Option.bind_some]
       ·rw [bMT hk2 t code p n b m _ G hd2 hm hgl (by omega) (Bool.eq_false_iff.2 hrb),Option.bind_some,if_pos rfl,if_pos rfl,if_neg (by decide),dJ.j0,if_pos rfl,if_pos rfl]
      ·rw [bMT hk2 t code p n a m _ G hd2 hm hgl (by omega) (Bool.eq_false_iff.2 hra),Option.bind_some]
       cases hb2:eH.f (k+1) t code p (n:Int) b with
       | none =>
        exfalso
        by_cases hrb:Cat.Vt (rd (aI t m).f2 (n:Int)) b=true
        ·rw [bMN hk2 hv code p hp.1 hl n b m G hd2 hm hins hfit (by omega) hrb] at hb2;cases hb2
        ·rw [bMT hk2 t code p n b m _ G hd2 hm hgl (by omega) (Bool.eq_false_iff.2 hrb)] at hb2;cases hb2
       | some r =>
        rw [Option.bind_some,if_pos rfl,if_neg (by decide),dJ.j0,if_pos rfl,if_neg (by decide)];rfl
     ·rw [bM3 hk2 t code p arg a _ _ G hd2 ha,Option.bind_some,bM3 hk2 t code p arg b _ _ G hd2 ha,Option.bind_some,if_pos rfl,if_neg (by decide),dJ.j0,if_pos rfl,if_neg (by decide)];rfl
    ·have hn:∀ j,j<t.length→¬ good t (code.drop p.toNat) j:=fun j hj hh=>hg ⟨j,hj,hh⟩
     exact bMM t code p arg a b 17 p (by decide) k hk (bML hsz hk2 code hb p hv hl hp.1 hp.2 hn)
   ·exact bMM t code p arg a b 3 (-5) (by decide) k hk (bMO hsz hk2 code p hv hl hp)
 ·exact bMM t code p arg a b _ _ hv k hk (decode_bad hsz hk2 code p hv)
theorem PatchRestores (t:List nJ) (hwf:∀ f ∈ t,NK.YN f) (hlen:t.length*48≤140737488351232) (hsz:∀ f ∈ t,NK.GL f) (code:List Int) (hcl:code.length*1≤140737488351232) (hcw:∀ x ∈ code,(Lit.int .u8 x).wf=true) (p:Int) (hp:(Lit.int .i64 p).wf=true) (arg:Int) (ha:(Lit.int .i64 arg).wf=true) (a:Int) (ha2:(Lit.int .i64 a).wf=true) (b:Int) (hb2:(Lit.int .i64 b).wf=true):∃ k,dJ.f k t code p arg a b=some true:=by
 obtain ⟨k,hk⟩:∃ k,big k:=⟨_,Nat.lt_succ_self _⟩
 exact ⟨_,bM7 t hsz code (bMS hcw) p arg a b k hk⟩
end Go.Proofs.Ytipjpdiianopcaa.Pure
