/- Parts of the proof. -/
import Derived.Test.YtcagoomibpcdlaaGreatDoorMBW
set_option maxHeartbeats 16000000
namespace Go.Proofs.YtcagoomibpcdlaaGreatDoor
open _root_.Go.Proofs.Tryz
open Go.Sx Go.Vm
theorem zMi(m:Img)(w j f:Int)(hw:¬w<16)(hj:¬j<0)(h:verE m=0): ((snT m (ranT m w f)).fin≠5->snT m (ranT m (w+j) f)=snT m (ranT m w f))/\((snT m (ranT m w f)).fin=5->(snT m (ranT m w f)).steps<=(snT m (ranT m (w+j) f)).steps/\(snT m (ranT m w f)).out <+: (snT m (ranT m (w+j) f)).out):=by
 obtain⟨hi,A,hg⟩:=zHV h
 have e:re (Go.Vm.start w) (w+j) 0 []=Go.Vm.start (w+j):=rfl
 have h1:MOk conF m A (Go.Vm.start w):=MOk.start hg hi (by omega)
 have h2:MOk conF m A (re (Go.Vm.start w) (w+j) 0 []):=by rw[e];exact MOk.start hg hi (by omega)
 have:=zLY shw f.toNat (Go.Vm.start w) 0 [] h1 h2 rfl (show w<=w+j by omega)
 rw[e]at this
 refine⟨fun h5=>?_,fun h5=>this.2 h5⟩
 obtain⟨u',l',hh⟩:=this.1 h5
 show snT m (runS shw m f.toNat (Go.Vm.start (w+j)))=_
 rw[hh];rfl
attribute [local irreducible] zAN Program.underlying Ylds zA9 alex zB3 zBf awp zAi zCC zCB zAU zBl zAz zDt zBq zBj zBB zBr zB2 zB8 zD7 zBi zBd zBg
theorem zP2(m:Img)(w j f:Int): zAi prog 4 [zDH m,i64 w,i64 j,i64 f] (bl true):=by
 have hA:=zOc
 have hF:=zYw m w f
 refine zAs func4 rfl ntmps4 results4 rfl ?_
 intro wb St0
 cases hfw:few3 m w f
 ·rw[hfw]at hF
  unfold zDH at *
  skip
  repeat' first|apply en_n|apply zAH|apply zAA|apply zAD|apply w0|(apply k0u (hd:=rfl);exact rfl;exact rfl)|(refine zAb zFe hA zAM)|(refine zAb zIL hF (zAY rfl (zAY rfl (zAY rfl zAM))))|(apply aBox (hd:=rfl) (hro:=rfl);exact rfl;exact rfl)|apply ay (hd:=rfl)|exact zAF rfl|exact zAB rfl|exact zBX rfl|exact zAa rfl rfl|exact zAX rfl rfl|exact zA4 rfl zCo rfl rfl rfl|refine w1 rfl rfl ?_|refine zAI rfl ?_|apply zAQ|apply en_r|apply zAR|refine res1 rfl ?_
  all_goals rfl
 ·rw[hfw]at hF
  obtain⟨hm,hw,hf,-,-⟩:=zRc hfw
  have hC:=zSV m hm.pool hm.code
  unfold zDH at *
  skip
  repeat' first|(refine zEj (id:=3) ?_)|apply en_n|apply zAH|apply zAA|apply zAD|apply w0|(apply k0u (hd:=rfl);exact rfl;exact rfl)|(refine zAb zFe hA zAM)|(refine zAb zIL hF (zAY rfl (zAY rfl (zAY rfl zAM))))|(apply aBox (hd:=rfl) (hro:=rfl);exact rfl;exact rfl)|apply ay (hd:=rfl)|exact zAF rfl|exact zAB rfl|exact zEw rfl rfl|exact zGG rfl rfl|exact zBX rfl|exact zAa rfl rfl|exact zAX rfl rfl|exact zA4 rfl zCo rfl rfl rfl|refine w1 rfl rfl ?_|(apply gD;exact rfl;exact rfl;all_goals intro hb)|(apply zBT;exact rfl;all_goals intro hb)|refine zAI rfl ?_|apply zAS|apply zAQ|apply en_r|apply zAR|refine res1 rfl ?_
  iterate 4 exact rfl
  rename_i hw16 hj0 hj1
  refine Stop.go ?_
  have hR1:=zIH m hm w f (by omega) (by omega)
  have hR2:=zIH m hm (w+j) f (by omega) (by omega)
  rw[zKh hw16 hb]at hR1
  rw[zKh (by omega) hb]at hR2
  have ho1:=zNq m w f
  have ho2:=zNq m (w+j) f
  have hv2:=zLZ m (w+j) f
  have hv1:=zLZ m w f
  by_cases he:verE m=0
  ·have hp:=zMi m w j f hw16 hj0 he
   rw[<-zMu hw16 hb he,<-zMu (w:=w+j) (by omega) hb he]at hp
   rw[he]at hR1 hR2
   generalize runV m w f=s1 at *
   generalize runV m (w+j) f=s2 at *
   obtain⟨f1,v1,n1,o1,t1⟩:=s1
   obtain⟨f2,v2,n2,o2,t2⟩:=s2
   dsimp only at ho1 ho2 hv1 hv2 hp
   have hS:=zSJ f1 f2 n1 n2 t1 t2 v1 v2 o1 o2 (by omega) (by omega)
   unfold Sn.av zIU zDH at *
   dsimp only at hR1 hR2
   by_cases h3:f1=5
   ·obtain⟨ht,hpre⟩:=hp.2 h3
    subst h3
    have hol:=hpre.length_le
    have hP:=zOo (o2.take o1.length) o1 (by rw[qAJ];omega)
    rw[decide_eq_true (List.prefix_iff_eq_take.1 hpre).symm]at hP
    skip
    repeat' first|apply en_n|apply zAH|apply zAA|apply zAD|apply w0|exact zJo rfl rfl|exact zFI rfl rfl|(refine zAb zFD hC (zAY rfl zAM))|(refine zAb zDG hR1 (zAY rfl (zAY rfl (zAY rfl zAM))))|(refine zAb zDG hR2 (zAY rfl (zAY rfl (zAY rfl zAM))))|(refine zAb zL1 hP (zAY rfl (zAY rfl zAM)))|refine zAh rfl rfl rfl zCE rfl rfl rfl rfl ?_|(apply zDI (hd:=rfl) (hro:=rfl);(with_reducible exact zD8))|apply ay (hd:=rfl)|exact zAF rfl|exact zAB rfl|(apply zBI;exact rfl;(with_reducible first|exact zHO|exact zHO))|refine zBE rfl rfl ?_|exact zAa rfl rfl|exact zAX rfl rfl|exact zAg rfl rfl|(apply zAC;exact rfl;(with_reducible first|exact zCa|exact zGO|exact zE7))|(apply zAE;exact rfl;(with_reducible first|exact zCr|exact zFa|exact zAP|exact zFa);exact rfl;exact rfl)|exact zA4 rfl zCo rfl rfl rfl|(apply zVO;(first|exact zCW rfl|exact zC3 rfl rfl rfl|exact Co_nn rfl);(with_reducible first|exact zFg|exact zFg);exact rfl;exact fun _=>rfl)|refine w1 rfl rfl ?_|(refine w0' ?_)|refine zAJ rfl ?_|apply zAS|apply zAQ|refine zAj (by kernel_rfl) (by kernel_rfl) ?_|apply zAR|refine res1 rfl ?_
    all_goals first|omega|rfl|contradiction|(exact zDi (decide_eq_true rfl))
   ·have h12:=hp.1 h3
    injection h12 with i1 i2 i3 i4 i5
    subst i1;subst i2;subst i3;subst i4;subst i5
    simp only[decide_true,Bool.and_true]at hS
    skip
    repeat' first|apply en_n|apply zAH|apply zAA|apply zAD|apply w0|exact zAk rfl rfl|exact zGI rfl rfl|exact zFI rfl rfl|(refine zAb zFD hC (zAY rfl zAM))|(refine zAb zDG hR1 (zAY rfl (zAY rfl (zAY rfl zAM))))|(refine zAb zDG hR2 (zAY rfl (zAY rfl (zAY rfl zAM))))|(refine zAb zK1 hS (zAY rfl (zAY rfl zAM)))|refine zAh rfl rfl rfl zCE rfl rfl rfl rfl ?_|(apply zDI (hd:=rfl) (hro:=rfl);(with_reducible exact zD8))|apply ay (hd:=rfl)|exact zAF rfl|exact zAB rfl|refine zBE rfl rfl ?_|exact zAa rfl rfl|exact zAX rfl rfl|exact zAg rfl rfl|(apply zAC;exact rfl;(with_reducible first|exact zCa|exact zE7))|(apply zAE;exact rfl;(with_reducible first|exact zCr|exact zAP);exact rfl;exact rfl)|(apply zA4;exact rfl;(with_reducible first|exact zCo|exact zCE);exact rfl;exact rfl;exact rfl)|refine w1 rfl rfl ?_|(refine w0' ?_)|refine zAI rfl ?_|refine zAJ rfl ?_|apply zAS|apply zAQ|apply en_r|apply zAR|refine res1 rfl ?_
    all_goals first|omega|rfl|contradiction|(exact zDi (decide_eq_true rfl))
  ·generalize verE m=e at *
   unfold Sn.av zIU zDH at *
   skip
   repeat' first|apply en_n|apply zAH|apply zAA|apply zAD|apply w0|(apply k0u (hd:=rfl);exact rfl;exact rfl)|exact zAk rfl rfl|exact zGI rfl rfl|(refine zAb zFD hC (zAY rfl zAM))|(refine zAb zDG hR1 (zAY rfl (zAY rfl (zAY rfl zAM))))|(refine zAb zDG hR2 (zAY rfl (zAY rfl (zAY rfl zAM))))|refine zAh rfl rfl rfl zCE rfl rfl rfl rfl ?_|(apply zDI (hd:=rfl) (hro:=rfl);(with_reducible exact zD8))|apply ay (hd:=rfl)|exact zAF rfl|exact zAB rfl|refine zBE rfl rfl ?_|exact zAa rfl rfl|exact zAg rfl rfl|exact zA4 rfl zCo rfl rfl rfl|(refine w0' ?_)|refine zAI rfl ?_|apply zAQ|apply en_r|apply zAR|refine res1 rfl ?_
   all_goals first|omega|rfl|contradiction|(exact zDi (decide_eq_true rfl))
end Go.Proofs.YtcagoomibpcdlaaGreatDoor
