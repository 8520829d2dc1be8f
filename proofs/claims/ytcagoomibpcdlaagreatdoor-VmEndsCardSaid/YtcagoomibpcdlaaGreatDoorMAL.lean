/- Parts of the proof. -/
import Derived.Test.YtcagoomibpcdlaaGreatDoorMAK
set_option maxHeartbeats 16000000
namespace Go.Proofs.YtcagoomibpcdlaaGreatDoor
open _root_.Go.Proofs.Tryz
open Go.Sx Go.Vm
abbrev HG(fx:Nat->Option Nat)(o:Option Nat)(all:List Thing)(ly:List Nat)(size:Nat)(ord X st out:List Nat): List Ob :=
 [.bx (fx 0) none [.buf 1 (nowM all ly ord).length,.buf 2 X.length,.d (i64 (size:Int)),.buf 3 (begL all ly size).length],.buf true 58 1 (w64s (nowM all ly ord)),.buf true 58 1 (w64s X),.buf true 4 1 (bls (begL all ly size)),.buf true 58 1 (w64s st),.bx o (some 4) ((bls (begL all ord size)).map .d),.buf true 58 1 (w64s out)]
theorem za8(all:List Thing)(size:Nat): (bls (begL all [] size)).map SV.d=List.replicate size (.d (bl false)):=by
 simp[bls,begL,sumN,List.map_replicate]
theorem zIj(fx:Nat->Option Nat)(o:Option Nat)(all:List Thing)(ly:List Nat)(size:Nat)(ord X st out:List Nat): (HG fx o all ly size ord X st out).all (Ob.below 7)=true:=by
 simp only[List.all_cons,List.all_nil,Ob.below,zJa];rfl
theorem zPS(fx:Nat->Option Nat)(o:Option Nat)(all:List Thing)(ly:List Nat)(size:Nat)(ord X st out:List Nat): Picks (HG fx o all ly size ord X st out) [0,1,2,3,5] (HC all ly size ord X):=by
 show _=[_,_,_,_,some (Ob.ren _ (Ob.bx _ _ ((bls (begL all ord size)).map SV.d)))]
 rw[zW2];rfl
theorem zWU(l:List Nat)(n:Nat)(h:l.length=n): (w64s l).take (List.replicate n (w64 0)).length++(List.replicate n (w64 0)).drop (w64s l).length=w64s l:=by
 rw[qAm,qAi (by rw[zAm];omega),List.drop_eq_nil_of_le (by rw[qAm,zAm];omega),qBC]
theorem zD1: (zA2 prog 56).isSome=true:=by rw[zBY];rfl
theorem zd_w: zIk prog 58=some (w64 0):=by kernel_rfl
theorem zd_b: zIk prog 4=some (bl false):=by kernel_rfl
attribute [local irreducible] zAO Program.underlying Ylds zBE alex zB0 zBk awp zAg zB9 zB8 zAU zBj zA6 zBl zBn zBC zBq zBz zB7 zBm zBc zBe
theorem zQa{all:List Thing}{ly:List Nat}{size:Nat}(oth:List Nat)(roots:List Rf)(hn:ly.Nodup)(hlt:∀i∈ly,i<all.length)(hcl:Closed all ly)(hH:∀i∈ly,HeadOk (zAW all i)/\1<=(zAW all i).kind)(h4:∀i∈ly,(zAW all i).kind=4->(zAW all i).parts=[])(hsz:sumN all ly<=size)(h20:size<=1048576)(hr:∀r∈roots,In ly r)(hrl:roots.length<=1048576):
  zAU prog 130 [.ptr 0 0,.buf 4 roots.length] (HO (size:Int) (zB1 all ly) oth (begL all ly size)++[Ob.buf true 58 1 (w64s (roots.map (wdN all ly)))]) (.buf 6 roots.length) (HO (size:Int) (zB1 all (zDp all roots)) (nowM all ly (zDp all roots)) (begL all (zDp all roots) size)++[Ob.buf true 58 1 (w64s (roots.map (wdN all ly))),Ob.gone,Ob.buf true 58 1 (w64s (roots.map (wdN all (zDp all roots))))]):=by
 have hb4:=zJ7 all ly hsz
 refine zFV func130 rfl ntmps130 results130 rfl rfl rfl ?_
 intro wb St0 X fx
 repeat' first|apply en_n|apply zAG|apply zAA|apply zAD|apply w0|apply ay (hd:=rfl)|exact zBN rfl
 refine zNv (α:=Option Nat×Nat×List Nat) [_,_,_,_,_,_] 0 rfl rfl (fun y=>Mv all ly roots y.2.1 y.2.2) (fun y=>[(0,.ptr 0 0),(5,.p (rowP y.1 size)),(6,.buf 6 roots.length),(9,.d (i64 (posN all y.2.2 y.2.1:Int)))]) (fun y=>HG fx y.1 all ly size y.2.2 (othM all ly y.2.2 y.2.1) (roots.map (wdN all ly)) (roots.map (wdN all y.2.2))) (fun y=>all.length+1-y.2.1) ?_ ?_
 ·skip
  repeat' first|apply en_n|apply zAG|apply zAA|apply zAD|apply w0|(refine aw_c ?_)|exact zAL rfl|exact zQX rfl|(apply zF1 (m:=oth.length) (n:=0) (k:=.i64);exact rfl;(with_reducible exact zD1);exact rfl;omega;exact⟨_,_,_,w64s oth,rfl,qA1 (zAm _).symm⟩)|(refine zVL rfl rfl (by with_reducible exact zLs) (by with_reducible exact zGu) (by with_reducible exact zd_b) rfl (by with_reducible exact zOC) rfl rfl (by omega) ?_;intro o)|(apply zSs;exact rfl;exact rfl;(with_reducible exact zCW);(with_reducible exact zBY);(with_reducible exact zd_w);exact rfl;exact rfl;(with_reducible exact zD5);exact rfl;exact rfl;omega)|(refine zV4 (sz:=1) (ys:=w64s (roots.map (wdN all ly))) rfl rfl (by rw[qAm]) rfl rfl (by rw[zAm,qAC,qAU];exact qAN _) (by rw[List.drop_zero,qAi (by rw[zAm,qAC];exact qAN _)]) (by with_reducible exact zBY) (zHN _) rfl rfl ?_)|apply ay (hd:=rfl)|exact zAF rfl|exact zAz rfl|exact zAp rfl|exact zA3 rfl zCq|exact zAH rfl|(apply zAC;exact rfl;(with_reducible first|exact zD6|exact zKa))|(apply zAE;exact rfl;(with_reducible first|exact zBJ|exact zAP);exact rfl;exact rfl)|(refine w0' ?_)|refine zAj rfl rfl rfl zBJ rfl rfl rfl rfl ?_|apply zAK
  refine zYD 2 0 rfl ?_
  refine zBV (α:=Nat) (fun i=>i<=roots.length) (fun i=>[(0,.ptr 0 0),(5,.p (rowP o size)),(6,.buf 6 roots.length),(34,.buf 6 roots.length),(35,.d (i64 (roots.length:Int))),(36,.d (i64 (i:Int)))]) (fun i=>HG fx o all ly size (addN [] (roots.take i)) (othM all ly (addN [] (roots.take i)) 0) (roots.map (wdN all ly)) (zHo all ly (addN [] (roots.take i)) roots i)) (fun i=>roots.length-i) 0 (qAV _)
   (zAS (Le_all rfl) ?_ rfl ?_) ?_
  ·exact zAN rfl (by rw[show addN [] (roots.take 0)=[]from rfl,zOf];rfl) (zAo rfl rfl (by rw[show addN [] (roots.take 0)=[]from rfl,zOf]) (zAo rfl rfl rfl (zAo rfl rfl rfl (zAo rfl rfl rfl (zAN rfl (congrArg (Ob.bx o _) (za8 all size)) (zAo rfl rfl (by rw[zW3];exact(zWU _ _ (by rw[qAC];rfl)).symm) zAs))))))
  ·exact zIj ..
  intro i hi
  rcases qAQ i roots.length with hlt'|hge
  ·have hri:roots[i]?=some roots[i]:=qAB hlt'
   have hmem:roots[i]∈roots:=qBH hlt'
   generalize roots[i]=r at hri hmem
   have eo:=zM1 (l:=[]) hri
   have hno:(addN [] (roots.take i)).Nodup:=zDj _ [] (by simp)
   have hsub:∀j∈addN [] (roots.take i),j∈ly:=zJA (by simp) fun r h=>hr r (qAY h)
   have hin:∀x∈roots.take i,In (addN [] (roots.take i)) x:=fun x h=>zLn [] _ h
   have hmv:=zOh hn hno hsub (zLP all ly (addN [] (roots.take i)) 0) hH hsz h20 r (hr r hmem)
   rw[zRs (qAV _) (by simp)]at hmv
   have hnx:=zPl (all:=all) (ly:=ly) hri hin
   have hld:(w64s (zHo all ly (addN [] (roots.take i)) roots i))[((i:Nat):Int).toNat]?=some (w64 (wdN all ly r)):=by rw[qAj];exact zDe (zT5 hri)
   have hil:(i:Int)<(roots.length:Int):=by omega
   have hol:=zRI all ly (addN [] (roots.take i)) roots i
   skip
   repeat' first|apply en_n|apply zAG|apply zAA|apply zAD|apply w0|exact zCf rfl rfl|exact zLk rfl|(apply zBM;exact rfl;exact rfl;exact rfl;(with_reducible exact zBY);omega;(rw[zAm];omega))|exact zCR rfl zBU rfl hld rfl|(refine zSt [0,1,2,3,5] 4 o zKm hmv rfl rfl (SArgs_all rfl) (zPS ..) rfl (by decide) rfl rfl (zNA _ _ _ _ _ _ _ (_,_) (_,_) (_,_) _) rfl rfl rfl ?_)|(refine zGf rfl rfl rfl zBU rfl rfl ?_ rfl ?_)|apply ay (hd:=rfl)|exact zAF rfl|exact zAB rfl|refine zBG rfl rfl ?_|exact zAz rfl|exact zAH rfl|(refine w0' ?_)|refine zAI rfl ?_|apply zAK|apply zAR|apply eb_n
   all_goals first|omega|(rw[zAm];omega)|skip
   refine⟨i+1,by omega,by omega,?_⟩
   show Fits _ (HG fx o all ly size (addN [] (roots.take (i+1))) (othM all ly (addN [] (roots.take (i+1))) 0) (roots.map (wdN all ly)) (zHo all ly (addN [] (roots.take (i+1))) roots (i+1))) _ _
   rw[eo]
   exact zAS (Le_all rfl) (zAN rfl rfl (zAo rfl rfl rfl (zAo rfl rfl rfl (zAo rfl rfl rfl (zAo rfl rfl rfl (zAN rfl (congrArg (Ob.bx o _) (zT4 (fun _=>rfl) _).symm) (zAo rfl rfl (by rw[<-hnx,<-zHe];rfl) zAs))))))) rfl (zIj ..)
  ·have hil:¬(i:Int)<(roots.length:Int):=by omega
   have e:i=roots.length:=by omega
   subst e
   skip
   repeat' first|apply en_n|apply zAG|apply zAA|apply zAD|apply w0|(refine aw_c ?_)|exact zCY rfl rfl|apply ay (hd:=rfl)|exact zAB rfl|refine zAJ rfl ?_|apply zBX|apply en_e|apply eb_e
   refine zZy ⟨(o,0,addN [] roots),Mv.start hr,?_⟩
   rw[qA8,zRJ]
   exact zAS (Le_all rfl) (zAN rfl rfl (zAo rfl rfl rfl (zAo rfl rfl rfl (zAo rfl rfl rfl (zAo rfl rfl rfl (zAN rfl rfl (zAo rfl rfl rfl zAs))))))) rfl (zIj ..)
 ·rintro⟨o,k,ord⟩ hM
  have hM:Mv all ly roots k ord:=hM
  show awp _ _ _ [(0,.ptr 0 0),(5,.p (rowP o size)),(6,.buf 6 roots.length),(9,.d (i64 (posN all ord k:Int)))] (HG fx o all ly size ord (othM all ly ord k) (roots.map (wdN all ly)) (roots.map (wdN all ord)))
  have hso:sumN all ord<=sumN all ly:=zFR hM.nodup hM.sub
  have hol:=zLP all ly ord k
  rcases qAQ k ord.length with hk|hk
  ·have hi:ord[k]?=some ord[k]:=qAB hk
   have hil:ord[k]∈ord:=qBH hk
   generalize ord[k]=i at hi hil
   have hpl:posN all ord k<sumN all ord:=zNX.2 hk
   have hpn:=zRd (all:=all) hi
   have hpe:posN all ord (k+1)<=sumN all ord:=by
    rcases qAQ (k+1) ord.length with h|h
    ·exact Nat.le_of_lt (zNX.2 h)
    ·unfold posN;rw[qAi h];exact qAN _
   obtain⟨hhd,hkd⟩:=hH i (hM.sub i hil)
   have htold:=zNM _ hhd
   have hnz:=zDV (zAW all i)
   have hld:(w64s (othM all ly ord k))[((posN all ord k:Nat):Int).toNat]?=some (w64 (zCu (zAW all i))):=by rw[qAj];exact zDe (zRt hi)
   have hlt1:(posN all ord k:Int)<((othM all ly ord k).length:Int):=by omega
   have hnx:=hM.next hlt hcl hi
   have e9:((posN all ord (k+1):Nat):Int)=(posN all ord k:Int)+(1+((zAW all i).size:Int)):=by omega
   by_cases hk4:(zAW all i).kind=4
   ·have hp0:=h4 i (hM.sub i hil) hk4
    have hx4:¬(zAW all i).kind≠4:=fun c=>c hk4
    skip
    repeat' first|apply en_n|apply zAG|apply zAA|apply zAD|apply w0|exact zCf rfl rfl|exact zAL rfl|(apply zBM;exact rfl;exact rfl;exact rfl;(with_reducible exact zBY);omega;(rw[zAm];omega))|exact zCR rfl zBU rfl hld rfl|(refine zAd zEh htold (CoLA rfl))|apply ay (hd:=rfl)|exact zAF rfl|exact zAB rfl|refine zBG rfl rfl ?_|exact zAk rfl rfl|exact zA3 rfl zCq|exact zAH rfl|exact zAC rfl zD6|exact zAE rfl zBJ rfl rfl|refine zAI rfl ?_|apply zAK
    all_goals first|omega|skip
    refine zBV (α:=Unit) (fun _=>True) (fun _=>[(0,.ptr 0 0),(5,.p (rowP o size)),(6,.buf 6 roots.length),(9,.d (i64 (posN all ord k:Int))),(10,.d (i64 (zAW all i).kind)),(12,.d (i64 ((zAW all i).size:Int)))]) (fun _=>HG fx o all ly size ord (othM all ly ord k) (roots.map (wdN all ly)) (roots.map (wdN all ord))) (fun _=>0) () trivial
     (zAS (Le_all rfl) (zAN rfl rfl (zAo rfl rfl rfl (zAo rfl rfl rfl (zAo rfl rfl rfl (zAo rfl rfl rfl (zAN rfl rfl (zAo rfl rfl rfl zAs))))))) rfl (zIj ..)) ?_
    intro _ _
    clear hlt1
    skip
    repeat' first|apply en_n|apply zAG|apply zAA|apply zAD|apply w0|exact zGi rfl rfl|refine k1u (hd:=rfl) rfl rfl ?_|apply ay (hd:=rfl)|exact zAF rfl|exact zAB rfl|refine zBG rfl rfl ?_|exact zAV rfl rfl|refine zAJ rfl ?_|apply zBX|apply zPE|apply en_e|apply eb_e|apply en_g|apply ej_g
    all_goals first|omega|skip
    refine⟨(o,k+1,ord),?_,?_,?_⟩
    ·rw[hp0]at hnx;exact hnx
    ·show all.length+1-(k+1)<all.length+1-k
     have:=zHw hM.nodup fun j hj=>hlt j (hM.sub j hj)
     omega
    ·exact zAS (Le_cons rfl (Le_cons rfl (Le_cons rfl (Le_d rfl (congrArg (fun x=>D.val (.int .i64 x)) e9) Le_nil)))) (zAN rfl (by show Ob.bx _ _ [_,.buf 2 (othM all ly ord (k+1)).length,_,_]=_;rw[<-zMK hi hk4]) (zAo rfl rfl rfl (zAo rfl rfl (by rw[<-zMK hi hk4]) (zAo rfl rfl rfl (zAo rfl rfl rfl (zAN rfl rfl (zAo rfl rfl rfl zAs))))))) rfl (zIj ..)
   ·have hx4:(zAW all i).kind≠4:=hk4
    have hps:(zAW all i).size=(zAW all i).parts.length:=by unfold Thing.size Thing.need;rw[if_neg hk4];omega
    clear hnz
    skip
    repeat' first|apply en_n|apply zAG|apply zAA|apply zAD|apply w0|exact zCf rfl rfl|exact zAL rfl|(apply zBM;exact rfl;exact rfl;exact rfl;(with_reducible exact zBY);omega;(rw[zAm];omega))|exact zCR rfl zBU rfl hld rfl|(refine zAd zEh htold (CoLA rfl))|apply ay (hd:=rfl)|exact zAF rfl|exact zAB rfl|refine zBG rfl rfl ?_|exact zAk rfl rfl|exact zA3 rfl zCq|exact zAH rfl|exact zAC rfl zD6|exact zAE rfl zBJ rfl rfl|refine zAI rfl ?_|apply zAK
    all_goals first|omega|skip
    clear hld
    refine zBV (α:=Nat) (fun j=>j<=(zAW all i).parts.length) (fun j=>[(0,.ptr 0 0),(5,.p (rowP o size)),(6,.buf 6 roots.length),(9,.d (i64 (posN all ord k:Int))),(10,.d (i64 (zAW all i).kind)),(12,.d (i64 ((zAW all i).size:Int))),(13,.d (i64 ((posN all ord k:Int)+1+(j:Int))))]) (fun j=>HG fx o all ly size (addN ord ((zAW all i).parts.take j)) (othP all ly (addN ord ((zAW all i).parts.take j)) k j) (roots.map (wdN all ly)) (roots.map (wdN all ord))) (fun j=>(zAW all i).parts.length-j) 0 (qAV _)
     (zAS (Le_cons rfl (Le_cons rfl (Le_cons rfl (Le_cons rfl (Le_cons rfl (Le_cons rfl (Le_d rfl (congrArg (fun x=>D.val (.int .i64 x)) (by omega)) Le_nil))))))) (zAN rfl (by show Ob.bx _ _ [_,.buf 2 (othP all ly ord k 0).length,_,_]=_;rw[<-zVk hi hk4];rfl) (zAo rfl rfl rfl (zAo rfl rfl (by show w64s (othP all ly ord k 0)=_;rw[<-zVk hi hk4]) (zAo rfl rfl rfl (zAo rfl rfl rfl (zAN rfl rfl (zAo rfl rfl rfl zAs))))))) rfl (zIj ..)) ?_
    intro j hj
    have hpre:ord <+: addN ord ((zAW all i).parts.take j):=zE4 _ _
    have hkle:k<=ord.length:=Nat.le_of_lt hk
    have hi':(addN ord ((zAW all i).parts.take j))[k]?=some i:=by
     obtain⟨q,e⟩:=hpre
     rw[<-e,qAF hk];exact hi
    have hin:∀r∈(zAW all i).parts.take j,In (addN ord ((zAW all i).parts.take j)) r:=fun r h=>zLn ord _ h
    have hly:∀r∈(zAW all i).parts,In ly r:=fun r h q e=>hcl i (hM.sub i hil) q (by rw[<-e];exact h)
    have hno:(addN ord ((zAW all i).parts.take j)).Nodup:=zDj _ _ hM.nodup
    have hsub:∀q∈addN ord ((zAW all i).parts.take j),q∈ly:=zJA hM.sub fun r h=>hly r (qAY h)
    have hcc:∀x∈(addN ord ((zAW all i).parts.take j)).take k,∀r∈(zAW all x).parts,In (addN ord ((zAW all i).parts.take j)) r:=fun x hx r hr=>by
     obtain⟨q,e⟩:=hpre
     rw[<-e,qBD hkle]at hx
     exact(hM.closed x hx r hr).pre (zE4 _ _)
    have hpo:posN all (addN ord ((zAW all i).parts.take j)) k=posN all ord k:=zLK hpre hkle
    have hXl:=zOd (all:=all) (ly:=ly) (j:=j) hi' hk4
    have hpp:posN all ord (k+1)<=sumN all (addN ord ((zAW all i).parts.take j)):=by
     have h1:sumN all ord<=sumN all (addN ord ((zAW all i).parts.take j)):=zFR hM.nodup fun q hq=>hpre.subset hq
     omega
    have hsl:sumN all (addN ord ((zAW all i).parts.take j))<=sumN all ly:=zFR hno hsub
    rcases qAQ j (zAW all i).parts.length with hjl|hjl
    ·have hri:(zAW all i).parts[j]?=some (zAW all i).parts[j]:=qAB hjl
     have hmem:(zAW all i).parts[j]∈(zAW all i).parts:=qBH hjl
     generalize (zAW all i).parts[j]=r at hri hmem
     have eo:=zM1 (l:=ord) hri
     have hmv:=zOh hn hno hsub hXl hH hsz h20 r (hly r hmem)
     rw[zUR hi' hcc hin r]at hmv
     have hi2:(addN (addN ord ((zAW all i).parts.take j)) [r])[k]?=some i:=by
      obtain⟨q,e⟩:=zI0 (addN ord ((zAW all i).parts.take j)) r
      rw[<-e,qAF (qAW hk hpre.length_le)];exact hi'
     have hnx2:=zUQ (all:=all) (ly:=ly) hi2 hri
     have hpo2:posN all (addN (addN ord ((zAW all i).parts.take j)) [r]) k=posN all ord k:=(zLK (zI0 _ r) (qAw hkle hpre.length_le)).trans hpo
     have hXl2:=zOd (all:=all) (ly:=ly) (j:=j) hi2 hk4
     have hsl2:sumN all (addN ord ((zAW all i).parts.take j))<=sumN all (addN (addN ord ((zAW all i).parts.take j)) [r]):=zFR hno fun q hq=>(zI0 _ r).subset hq
     have hat:((posN all ord k:Int)+1+(j:Int)).toNat=posN all ord k+1+j:=by omega
     have hld:(w64s (othP all ly (addN ord ((zAW all i).parts.take j)) k j))[((posN all ord k:Int)+1+(j:Int)).toNat]?=some (w64 (wdN all ly r)):=by rw[hat,<-hpo];exact zDe (zXI hi' hri)
     have hil:(posN all ord k:Int)+1+(j:Int)<=(posN all ord k:Int)+((zAW all i).size:Int):=by omega
     clear hnx htold
     skip
     repeat' first|apply en_n|apply zAG|apply zAA|apply zAD|apply w0|exact zM3 rfl rfl|exact zGh rfl rfl|exact zAL rfl|exact zLk rfl|(apply zBM;exact rfl;exact rfl;exact rfl;(with_reducible exact zBY);omega;(rw[zAm];omega))|exact zCR rfl zBU rfl hld rfl|(refine zSt [0,1,2,3,5] 4 o zKm hmv rfl rfl (SArgs_all rfl) (zPS ..) rfl (by decide) rfl rfl (zNA _ _ _ _ _ _ _ (_,_) (_,_) (_,_) _) rfl rfl rfl ?_)|(refine zGf rfl rfl rfl zBU rfl rfl ?_ rfl ?_)|apply ay (hd:=rfl)|exact zAF rfl|exact zAB rfl|refine zBG rfl rfl ?_|exact zAZ rfl rfl|exact zAH rfl|exact zAC rfl zD6|exact zAE rfl zBJ rfl rfl|refine w1 rfl rfl ?_|(refine w0' ?_)|refine zAI rfl ?_|apply zAK|apply zAR|apply eb_n
     all_goals first|omega|(rw[zAm];omega)|skip
     refine⟨j+1,by omega,by omega,?_⟩
     show Fits _ (HG fx o all ly size (addN ord ((zAW all i).parts.take (j+1))) (othP all ly (addN ord ((zAW all i).parts.take (j+1))) k (j+1)) (roots.map (wdN all ly)) (roots.map (wdN all ord))) _ _
     rw[eo,<-hnx2,hpo2]
     exact zAS (Le_cons rfl (Le_cons rfl (Le_cons rfl (Le_cons rfl (Le_cons rfl (Le_cons rfl (Le_d rfl (congrArg (fun x=>D.val (.int .i64 x)) (by omega)) Le_nil))))))) (zAN rfl (by rw[qAa];rfl) (zAo rfl rfl rfl (zAo rfl rfl (by rw[<-hat,<-zHe]) (zAo rfl rfl rfl (zAo rfl rfl rfl (zAN rfl (congrArg (Ob.bx o _) (zT4 (fun _=>rfl) _).symm) (zAo rfl rfl rfl zAs))))))) rfl (zIj ..)
    ·have hje:j=(zAW all i).parts.length:=by omega
     have hil:¬(posN all ord k:Int)+1+(j:Int)<=(posN all ord k:Int)+((zAW all i).size:Int):=by omega
     clear htold
     skip
     repeat' first|apply en_n|apply zAG|apply zAA|apply zAD|apply w0|exact zM4 rfl rfl|exact zGh rfl rfl|apply ay (hd:=rfl)|exact zAF rfl|exact zAB rfl|refine zBG rfl rfl ?_|exact zAZ rfl rfl|refine w1 rfl rfl ?_|refine zAJ rfl ?_|apply zBX|apply zPE|apply en_e|apply eb_e|apply en_g|apply ej_g
     all_goals first|omega|skip
     refine⟨(o,k+1,addN ord (zAW all i).parts),hnx,?_,?_⟩
     ·show all.length+1-(k+1)<all.length+1-k
      have:=zHw hM.nodup fun j hj=>hlt j (hM.sub j hj)
      omega
     ·have ho4:=zUS (all:=all) (ly:=ly) hi' hk4
      subst hje
      rw[qA8]at ho4 hpre hin
      have e10:posN all (addN ord (zAW all i).parts) (k+1)=posN all ord (k+1):=zLK hpre hk
      have em:roots.map (wdN all (addN ord (zAW all i).parts))=roots.map (wdN all ord):=zLR hpre hM.rt
      show Fits [_,_,_,(9,.d (i64 (posN all (addN ord (zAW all i).parts) (k+1):Int)))] (HG fx o all ly size (addN ord (zAW all i).parts) (othM all ly (addN ord (zAW all i).parts) (k+1)) (roots.map (wdN all ly)) (roots.map (wdN all (addN ord (zAW all i).parts)))) _ _
      rw[em,<-ho4,qA8,e10]
      exact zAS (Le_cons rfl (Le_cons rfl (Le_cons rfl (Le_d rfl (congrArg (fun x=>D.val (.int .i64 x)) e9) Le_nil)))) (zAN rfl rfl (zAo rfl rfl rfl (zAo rfl rfl rfl (zAo rfl rfl rfl (zAo rfl rfl rfl (zAN rfl rfl (zAo rfl rfl rfl zAs))))))) rfl (zIj ..)
  ·obtain⟨hnd,hke⟩:=hM.fin hk
   rw[hnd]
   have hbo:(begL all ord size).length=size:=zJ7 all ord (by omega)
   have hoe:othM all ly ord k=zB1 all ord:=by rw[hke,zUU]
   rw[hoe]at hol ⊢
   refine zSf 5 5 size rfl rfl (by rw[zGJ,hbo]) (by show size<=maxLen;simp only[maxLen];omega) (fun d hd=>by obtain⟨x,_,rfl⟩:=qBO.1 hd;rfl) rfl ?_
   refine zCI (s:=[(0,.ptr 0 0),(5,.buf 5 size),(6,.buf 6 roots.length),(9,.d (i64 (posN all ord k:Int)))]) (h:=[.bx (fx 0) none [.buf 1 (nowM all ly ord).length,.buf 2 (zB1 all ord).length,.d (i64 (size:Int)),.buf 3 (begL all ly size).length],.buf true 58 1 (w64s (nowM all ly ord)),.buf true 58 1 (w64s (zB1 all ord)),.buf true 4 1 (bls (begL all ly size)),.buf true 58 1 (w64s (roots.map (wdN all ly))),.buf true 4 1 (bls (begL all ord size)),.buf true 58 1 (w64s (roots.map (wdN all ord)))]) ?_ ?_
   ·exact zAS (Le_all rfl) (zAN rfl rfl (zAo rfl rfl rfl (zAo rfl rfl rfl (zAo rfl rfl rfl (zAo rfl rfl rfl (zAo rfl rfl rfl (zAo rfl rfl rfl zAs))))))) rfl rfl
   refine zH6 1 2 rfl rfl rfl rfl ?_
   refine zCI (s:=[(0,.ptr 0 0),(5,.buf 5 size),(6,.buf 6 roots.length),(9,.d (i64 (posN all ord k:Int)))]) (h:=[.bx (fx 0) none [.buf 2 (nowM all ly ord).length,.buf 1 (zB1 all ord).length,.d (i64 (size:Int)),.buf 3 (begL all ly size).length],.buf true 58 1 (w64s (zB1 all ord)),.buf true 58 1 (w64s (nowM all ly ord)),.buf true 4 1 (bls (begL all ly size)),.buf true 58 1 (w64s (roots.map (wdN all ly))),.buf true 4 1 (bls (begL all ord size)),.buf true 58 1 (w64s (roots.map (wdN all ord)))]) ?_ ?_
   ·exact zAS (Le_all rfl) (zAN rfl rfl (zAo rfl rfl rfl (zAo rfl rfl rfl (zAo rfl rfl rfl (zAo rfl rfl rfl (zAo rfl rfl rfl (zAo rfl rfl rfl zAs))))))) rfl rfl
   refine zH6 3 5 rfl rfl rfl rfl ?_
   refine zCI (s:=[(0,.ptr 0 0),(5,.buf 3 size),(6,.buf 6 roots.length),(9,.d (i64 (posN all ord k:Int)))]) (h:=[.bx (fx 0) none [.buf 2 (nowM all ly ord).length,.buf 1 (zB1 all ord).length,.d (i64 (size:Int)),.buf 5 (begL all ly size).length],.buf true 58 1 (w64s (zB1 all ord)),.buf true 58 1 (w64s (nowM all ly ord)),.buf true 4 1 (bls (begL all ord size)),.buf true 58 1 (w64s (roots.map (wdN all ly))),.gone,.buf true 58 1 (w64s (roots.map (wdN all ord)))]) ?_ ?_
   ·exact zAS (Le_all rfl) (zAN rfl rfl (zAo rfl rfl rfl (zAo rfl rfl rfl (zAo rfl rfl rfl (zAo rfl rfl rfl (zIC rfl (zAo rfl rfl rfl zAs))))))) rfl rfl
   have hlt1:¬(posN all ord k:Int)<((zB1 all ord).length:Int):=by
    have:=zNX (all:=all) (ord:=ord) (k:=k)
    omega
   skip
   repeat' first|(refine zJ9 [.ptr 0 0,.ptr 0 0,.ptr 0 0,.ptr 0 0,.ptr 0 0,.ptr 0 (0+1),.buf 1 (zB1 all ord).length,.ptr 0 0,.ptr 0 0,.ptr 0 (0+0),.buf 2 (nowM all ly ord).length,.buf 3 size,.ptr 0 0,.ptr 0 (0+0),.top,.ptr 0 0,.ptr 0 (0+1),.top,.ptr 0 0,.ptr 0 (0+3),.top] [14,17,20] [[.bx (fx 0) none [.buf 2 (nowM all ly ord).length,.buf 1 (zB1 all ord).length,.d (i64 (size:Int)),.buf 5 (begL all ly size).length],.buf true 58 1 (w64s (zB1 all ord)),.buf true 58 1 (w64s (nowM all ly ord)),.buf true 4 1 (bls (begL all ord size)),.buf true 58 1 (w64s (roots.map (wdN all ly))),.gone,.buf true 58 1 (w64s (roots.map (wdN all ord)))],[.bx (fx 0) none [.buf 1 (zB1 all ord).length,.buf 1 (zB1 all ord).length,.d (i64 (size:Int)),.buf 5 (begL all ly size).length],.buf true 58 1 (w64s (zB1 all ord)),.buf true 58 1 (w64s (nowM all ly ord)),.buf true 4 1 (bls (begL all ord size)),.buf true 58 1 (w64s (roots.map (wdN all ly))),.gone,.buf true 58 1 (w64s (roots.map (wdN all ord)))],[.bx (fx 0) none [.buf 1 (zB1 all ord).length,.buf 2 (nowM all ly ord).length,.d (i64 (size:Int)),.buf 5 (begL all ly size).length],.buf true 58 1 (w64s (zB1 all ord)),.buf true 58 1 (w64s (nowM all ly ord)),.buf true 4 1 (bls (begL all ord size)),.buf true 58 1 (w64s (roots.map (wdN all ly))),.gone,.buf true 58 1 (w64s (roots.map (wdN all ord)))],[.bx (fx 0) none [.buf 1 (zB1 all ord).length,.buf 2 (nowM all ly ord).length,.d (i64 (size:Int)),.buf 3 size],.buf true 58 1 (w64s (zB1 all ord)),.buf true 58 1 (w64s (nowM all ly ord)),.buf true 4 1 (bls (begL all ord size)),.buf true 58 1 (w64s (roots.map (wdN all ly))),.gone,.buf true 58 1 (w64s (roots.map (wdN all ord)))]] (by kernel_rfl) (by kernel_rfl) rfl (.inl rfl) rfl (by kernel_rfl) rfl rfl ?_ ?_)|apply en_n|apply zAG|apply zAA|apply zAD|apply w0|exact zLF|(refine zED rfl rfl rfl (fun η=>zAH rfl) ?_)|(refine zED rfl rfl rfl (fun η=>zAz rfl) ?_)|(refine zED rfl rfl rfl (fun η=>zAL rfl) ?_)|(refine zED rfl rfl rfl (fun η=>zAC rfl (by first|with_reducible exact zCw|with_reducible exact zD6|with_reducible exact zGr)) ?_)|(refine zIK 0 0 rfl rfl rfl (by kernel_rfl) (by kernel_rfl) (zDy (zAE rfl (by with_reducible exact zBJ) rfl rfl) zG9) ?_)|(refine zKd _ rfl rfl rfl rfl (by first|with_reducible exact zBJ|with_reducible exact zIq) rfl rfl rfl rfl rfl rfl ?_)|exact zCY rfl rfl|exact zAL rfl|apply ay (hd:=rfl)|exact zAF rfl|exact zAz rfl|exact zAp rfl|exact zA3 rfl zCq|exact zAH rfl|exact zAC rfl zD6|exact zAE rfl zBJ rfl rfl|refine zAJ rfl ?_|apply zAR|apply zAQ|apply ej_r
   all_goals first|omega|skip
   exact zDI (zAS (Le_all rfl) (zAN rfl (by show Ob.bx _ _ [_,_,_,.buf 3 (begL all ord size).length]=_;rw[hbo]) (zAo rfl rfl rfl (zAo rfl rfl rfl (zAo rfl rfl rfl (zAo rfl rfl rfl (zIC rfl (zAo rfl rfl rfl zAs))))))) rfl rfl)
end Go.Proofs.YtcagoomibpcdlaaGreatDoor
