/- Texts of this claim, merged: VmEC. -/
import Derived.Test.YtcagoomibpcdlaaGreatDoorMBU
namespace Go.Proofs.YtcagoomibpcdlaaGreatDoor
open Go.Sx Go.Vm
theorem zMR{m:Img}{w f:Int}(hw:¬w<16)(hf:¬f<0): runE m w f=verE m:=by
 unfold runE;split
 ·rfl
 ·rename_i h;omega
theorem zPw{m:Img}{w f:Int}(hw:¬w<16)(hf:¬f<0)(h:verE m=0): runV m w f=snT m (ranT m w f):=by
 unfold runV;rw[zMR hw hf,if_neg (by omega)]
theorem zMm(m:Img)(w f k:Int)(hf:¬f<0)(hk:¬k<0): ((snT m (ranT m w f)).fin≠3→snT m (ranT m w (f+k))=snT m (ranT m w f))∧((snT m (ranT m w f)).fin=3→(snT m (ranT m w f)).steps=f∧(snT m (ranT m w f)).out <+: (snT m (ranT m w (f+k))).out):=by
 obtain⟨n,rfl⟩:∃n:Nat,f=n:=⟨f.toNat,by omega⟩
 obtain⟨j,rfl⟩:∃j:Nat,k=j:=⟨k.toNat,by omega⟩
 have h:=zNK shw m j n (Go.Vm.start w) (by show (0:Int)≠3;decide)
 have e1:ranT m w (n:Int)=runS shw m n (Go.Vm.start w):=rfl
 have e2:ranT m w ((n:Int)+(j:Int))=runS shw m (n+j) (Go.Vm.start w):=by unfold ranT;rw[show ((n:Int)+(j:Int)).toNat=n+j by omega]
 rw[e1,e2]
 refine⟨fun h3=>by rw[h.1 h3],fun h3=>?_⟩
 obtain⟨h4,h5⟩:=h.2 h3
 refine⟨?_,h5⟩
 show (runS shw m n (Go.Vm.start w)).steps=_
 rw[h4];show (0:Int)+(n:Int)=n;omega
attribute [local irreducible] zAQ Program.underlying Ylds zBD alex zCA zBi awp zAp zCI zCH zAW zBw zA5 zD4 zB0 zBp zBF zBv zB9 zCE zES zBn zBm zBs
set_option maxHeartbeats 4000000 in
theorem zTY(m:Img)(w f k:Int): zAp Tryz.prog 5 [zDY m,i64 w,i64 f,i64 k] (bl true):=by
 have hA:=zTp
 have hF:=zX7 m w f
 refine zA8 Tryz.func5 rfl Tryz.ntmps5 Tryz.results5 rfl ?_
 intro wb St0
 cases hfw:few3 m w f
 ·rw[hfw]at hF
  unfold zDY at *
  skip
  repeat' first|apply en_n|apply zAK|apply zAA|apply zAF|apply w0|(apply k0u (hd:=rfl);exact rfl;exact rfl)|(refine zAh zGq hA zAR)|(refine zAh zH4 hF (zAa rfl (zAa rfl (zAa rfl zAR))))|(apply aBox (hd:=rfl) (hro:=rfl);exact rfl;exact rfl)|apply ay (hd:=rfl)|exact zAJ rfl|exact zAD rfl|exact zBd rfl|exact zAj rfl rfl|exact zAc rfl rfl|(apply zBG;exact rfl;(with_reducible exact zDG);exact rfl;exact rfl;exact rfl)|(apply w1;exact rfl;exact rfl)|(apply zAL;exact rfl)|apply zAT|apply en_r|apply zAY|(apply res1;exact rfl)
  all_goals rfl
 ·rw[hfw]at hF
  obtain⟨hm,hw,hf,-,-⟩:=zQz hfw
  have hC:=zRr m hm.pool hm.code
  unfold zDY at *
  skip
  repeat' first|(refine zGo (id:=3) ?_)|apply en_n|apply zAK|apply zAA|apply zAF|apply w0|(apply k0u (hd:=rfl);exact rfl;exact rfl)|(refine zAh zGq hA zAR)|(refine zAh zH4 hF (zAa rfl (zAa rfl (zAa rfl zAR))))|(apply aBox (hd:=rfl) (hro:=rfl);exact rfl;exact rfl)|apply ay (hd:=rfl)|exact zAJ rfl|exact zAD rfl|exact zGm rfl rfl|exact zH0 rfl rfl|exact zBd rfl|exact zAj rfl rfl|exact zAc rfl rfl|(apply zBG;exact rfl;(with_reducible exact zDG);exact rfl;exact rfl;exact rfl)|(apply w1;exact rfl;exact rfl)|(apply gD;exact rfl;exact rfl;(intro hb);rotate_left;(intro hb);rotate_right)|(apply zCO;exact rfl;(intro hb);rotate_left;(intro hb);rotate_right)|(apply zAL;exact rfl)|apply zAU|apply zAT|apply en_r|apply zAY|(apply res1;exact rfl)
  iterate 4 exact rfl
  rename_i hw16 hk0 hk1
  refine Stop.go ?_
  have hR1:=zJY m hm w f (by omega) (by omega)
  have hR2:=zJY m hm w (f+k) (by omega) (by omega)
  rw[zMR hw16 hb]at hR1
  rw[zMR hw16 (by omega)]at hR2
  have ho1:=zNM m w f
  have ho2:=zNM m w (f+k)
  have hv2:=zLA m w (f+k)
  have hv1:=zLA m w f
  by_cases he:verE m=0
  ·have hp:=zMm m w f k hb hk0
   rw[←zPw hw16 hb he,←zPw hw16 (by omega) he]at hp
   rw[he]at hR1 hR2
   generalize runV m w f=s1 at *
   generalize runV m w (f+k)=s2 at *
   obtain⟨f1,v1,n1,o1,t1⟩:=s1
   obtain⟨f2,v2,n2,o2,t2⟩:=s2
   dsimp only at ho1 ho2 hv1 hv2 hp
   have hS:=zRf f1 f2 n1 n2 t1 t2 v1 v2 o1 o2 (by omega) (by omega)
   unfold Sn.av zJd zDY at *
   dsimp only at hR1 hR2
   by_cases h3:f1=3
   ·obtain⟨ht,hpre⟩:=hp.2 h3
    subst ht
    subst h3
    have hol:=hpre.length_le
    have hP:=zOD (o2.take o1.length) o1 (by rw[List.length_take];omega)
    rw[decide_eq_true (List.prefix_iff_eq_take.1 hpre).symm]at hP
    skip
    repeat' first|apply en_n|apply zAK|apply zAA|apply zAF|apply w0|(apply zJW;exact rfl;exact rfl;first|assumption|omega)|(apply zAn;exact rfl;exact rfl;first|assumption|omega)|(apply zGJ;exact rfl;exact rfl;first|assumption|omega)|(refine zAh zEv hC (zAa rfl zAR))|(refine zAh zD0 hR1 (zAa rfl (zAa rfl (zAa rfl zAR))))|(refine zAh zD0 hR2 (zAa rfl (zAa rfl (zAa rfl zAR))))|(refine zAh zLZ hP (zAa rfl (zAa rfl zAR)))|(apply zAl;exact rfl;exact rfl;exact rfl;(with_reducible exact zCR);exact rfl;exact rfl;exact rfl;exact rfl)|(apply zDs (hd:=rfl) (hro:=rfl);(with_reducible exact zEq))|apply ay (hd:=rfl)|exact zAJ rfl|exact zAD rfl|(apply zBZ;exact rfl;(with_reducible first|exact zG9|exact zG9))|(apply zBL;exact rfl;exact rfl)|exact zAj rfl rfl|exact zAc rfl rfl|exact zAm rfl rfl|(apply zAC;exact rfl;(with_reducible first|exact zCr|exact zF2|exact zF1))|(apply zAG;exact rfl;(with_reducible first|exact zDD|exact zFK|exact zAS|exact zFK);exact rfl;exact rfl)|(apply zBG;exact rfl;(with_reducible exact zDG);exact rfl;exact rfl;exact rfl)|(apply zUf;(first|exact zCw rfl|exact zDn rfl rfl rfl|exact Co_nn rfl);(with_reducible first|exact zFN|exact zFN);exact rfl;exact fun _=>rfl)|(apply w1;exact rfl;exact rfl)|(refine w0' ?_)|(apply zAM;exact rfl)|apply zAU|apply zAT|refine zAr (by kernel_rfl) (by kernel_rfl) ?_|apply zAY|(apply res1;exact rfl)
    all_goals first|omega|rfl|contradiction|(exact zEa (decide_eq_true rfl))
   ·have h12:=hp.1 h3
    injection h12 with i1 i2 i3 i4 i5
    subst i1;subst i2;subst i3;subst i4;subst i5
    simp only[decide_true,Bool.and_true]at hS
    skip
    repeat' first|apply en_n|apply zAK|apply zAA|apply zAF|apply w0|(apply zAn;exact rfl;exact rfl;first|assumption|omega)|(apply zGs;exact rfl;exact rfl;first|assumption|omega)|(apply zGJ;exact rfl;exact rfl;first|assumption|omega)|(refine zAh zEv hC (zAa rfl zAR))|(refine zAh zD0 hR1 (zAa rfl (zAa rfl (zAa rfl zAR))))|(refine zAh zD0 hR2 (zAa rfl (zAa rfl (zAa rfl zAR))))|(refine zAh zKf hS (zAa rfl (zAa rfl zAR)))|(apply zAl;exact rfl;exact rfl;exact rfl;(with_reducible exact zCR);exact rfl;exact rfl;exact rfl;exact rfl)|(apply zDs (hd:=rfl) (hro:=rfl);(with_reducible exact zEq))|apply ay (hd:=rfl)|exact zAJ rfl|exact zAD rfl|(apply zBL;exact rfl;exact rfl)|exact zAj rfl rfl|exact zAc rfl rfl|exact zAm rfl rfl|(apply zAC;exact rfl;(with_reducible first|exact zCr|exact zF1))|(apply zAG;exact rfl;(with_reducible first|exact zDD|exact zAS);exact rfl;exact rfl)|(apply zBG;exact rfl;(with_reducible first|exact zDG|exact zCR);exact rfl;exact rfl;exact rfl)|(apply w1;exact rfl;exact rfl)|(refine w0' ?_)|(apply zAL;exact rfl)|(apply zAM;exact rfl)|apply zAU|apply zAT|apply en_r|apply zAY|(apply res1;exact rfl)
    all_goals first|omega|rfl|contradiction|(exact zEa (decide_eq_true rfl))
  ·generalize verE m=e at *
   unfold Sn.av zJd zDY at *
   skip
   repeat' first|apply en_n|apply zAK|apply zAA|apply zAF|apply w0|(apply k0u (hd:=rfl);exact rfl;exact rfl)|(apply zAn;exact rfl;exact rfl;first|assumption|omega)|(apply zGs;exact rfl;exact rfl;first|assumption|omega)|(refine zAh zEv hC (zAa rfl zAR))|(refine zAh zD0 hR1 (zAa rfl (zAa rfl (zAa rfl zAR))))|(refine zAh zD0 hR2 (zAa rfl (zAa rfl (zAa rfl zAR))))|(apply zAl;exact rfl;exact rfl;exact rfl;(with_reducible exact zCR);exact rfl;exact rfl;exact rfl;exact rfl)|(apply zDs (hd:=rfl) (hro:=rfl);(with_reducible exact zEq))|apply ay (hd:=rfl)|exact zAJ rfl|exact zAD rfl|(apply zBL;exact rfl;exact rfl)|exact zAj rfl rfl|exact zAm rfl rfl|(apply zBG;exact rfl;(with_reducible exact zDG);exact rfl;exact rfl;exact rfl)|(refine w0' ?_)|(apply zAL;exact rfl)|apply zAT|apply en_r|apply zAY|(apply res1;exact rfl)
   all_goals first|omega|rfl|contradiction|(exact zEa (decide_eq_true rfl))
end Go.Proofs.YtcagoomibpcdlaaGreatDoor
