/- Parts of the proof. -/
import Derived.Test.YtcagoomibpcdlaaGreatDoorMAL
set_option maxHeartbeats 16000000
namespace Go.Proofs.YtcagoomibpcdlaaGreatDoor
open _root_.Go.Proofs.Tryz
open Go.Sx Go.Vm
abbrev HG(fx:Nat->Option Nat)(o:Option Nat)(all:List Thing)(ly:List Nat)(size:Nat)(ord X st out:List Nat): List Ob :=
 [.bx (fx 0) none [.buf 1 (nowM all ly ord).length,.buf 2 X.length,.d (i64 (size:Int)),.buf 3 (begL all ly size).length],.buf true 58 1 (w64s (nowM all ly ord)),.buf true 58 1 (w64s X),.buf true 4 1 (bls (begL all ly size)),.buf true 58 1 (w64s st),.bx o (some 4) ((bls (begL all ord size)).map .d),.buf true 58 1 (w64s out)]
theorem zaB(all:List Thing)(size:Nat): (bls (begL all [] size)).map SV.d=List.replicate size (.d (bl false)):=by
 simp[bls,begL,sumN,List.map_replicate]
theorem zIS(fx:Nat->Option Nat)(o:Option Nat)(all:List Thing)(ly:List Nat)(size:Nat)(ord X st out:List Nat): (HG fx o all ly size ord X st out).all (Ob.below 7)=true:=by
 simp only[List.all_cons,List.all_nil,Ob.below,zJA];rfl
theorem zOu(fx:Nat->Option Nat)(o:Option Nat)(all:List Thing)(ly:List Nat)(size:Nat)(ord X st out:List Nat): Picks (HG fx o all ly size ord X st out) [0,1,2,3,5] (HC all ly size ord X):=by
 show _=[_,_,_,_,some (Ob.ren _ (Ob.bx _ _ ((bls (begL all ord size)).map SV.d)))]
 rw[zWK];rfl
theorem zVn(l:List Nat)(n:Nat)(h:l.length=n): (w64s l).take (List.replicate n (w64 0)).length++(List.replicate n (w64 0)).drop (w64s l).length=w64s l:=by
 rw[qAp,qAi (by rw[zAl];omega),List.drop_eq_nil_of_le (by rw[qAp,zAl];omega),qBC]
theorem zDw: (zA2 prog 56).isSome=true:=by rw[zBQ];rfl
theorem zd_w: zIz prog 58=some (w64 0):=by kernel_rfl
theorem zd_b: zIz prog 4=some (bl false):=by kernel_rfl
attribute [local irreducible] zAN Program.underlying Ylds zA9 alex zB3 zBf awp zAi zCC zCB zAU zBl zAz zBq zBj zBB zBr zB2 zB8 zBi zBd zBg
theorem zPx{all:List Thing}{ly:List Nat}{size:Nat}(oth:List Nat)(roots:List Rf)(hn:ly.Nodup)(hlt:∀i∈ly,i<all.length)(hcl:Closed all ly)(hH:∀i∈ly,HeadOk (zAV all i)/\1<=(zAV all i).kind)(h4:∀i∈ly,(zAV all i).kind=4->(zAV all i).parts=[])(hsz:sumN all ly<=size)(h20:size<=1048576)(hr:∀r∈roots,In ly r)(hrl:roots.length<=1048576):
  zAU prog 130 [.ptr 0 0,.buf 4 roots.length] (HO (size:Int) (zBs all ly) oth (begL all ly size)++[Ob.buf true 58 1 (w64s (roots.map (wdN all ly)))]) (.buf 6 roots.length) (HO (size:Int) (zBs all (zDn all roots)) (nowM all ly (zDn all roots)) (begL all (zDn all roots) size)++[Ob.buf true 58 1 (w64s (roots.map (wdN all ly))),Ob.gone,Ob.buf true 58 1 (w64s (roots.map (wdN all (zDn all roots))))]):=by
 have hb4:=zJf all ly hsz
 refine zFR func130 rfl ntmps130 results130 rfl rfl rfl ?_
 intro wb St0 X fx
 repeat' first|apply en_n|apply zAH|apply zAA|apply zAD|apply w0|apply ay (hd:=rfl)|exact zCD rfl
 refine zNO (α:=Option Nat×Nat×List Nat) [_,_,_,_,_,_] 0 rfl rfl (fun y=>Mv all ly roots y.2.1 y.2.2) (fun y=>[(0,.ptr 0 0),(5,.p (rowP y.1 size)),(6,.buf 6 roots.length),(9,.d (i64 (posN all y.2.2 y.2.1:Int)))]) (fun y=>HG fx y.1 all ly size y.2.2 (othM all ly y.2.2 y.2.1) (roots.map (wdN all ly)) (roots.map (wdN all y.2.2))) (fun y=>all.length+1-y.2.1) ?_ ?_
 ·skip
  repeat' first|apply en_n|apply zAH|apply zAA|apply zAD|apply w0|(refine aw_c ?_)|exact zAK rfl|exact zPu rfl|(apply zFv (m:=oth.length) (n:=0) (k:=.i64);exact rfl;(with_reducible exact zDw);exact rfl;omega;exact⟨_,_,_,w64s oth,rfl,qA0 (zAl _).symm⟩)|(refine zUe rfl rfl (by with_reducible exact zLL) (by with_reducible exact zGm) (by with_reducible exact zd_b) rfl (by with_reducible exact zNd) rfl rfl (by omega) ?_;intro o)|(apply zXY;exact rfl;exact rfl;(with_reducible exact zCS);(with_reducible exact zBQ);(with_reducible exact zd_w);exact rfl;exact rfl;(with_reducible exact zD0);exact rfl;exact rfl;omega)|(refine zVN (sz:=1) (ys:=w64s (roots.map (wdN all ly))) rfl rfl (by rw[qAp]) rfl rfl (by rw[zAl,qAC,qAU];exact qAN _) (by rw[List.drop_zero,qAi (by rw[zAl,qAC];exact qAN _)]) (by with_reducible exact zBQ) (zHA _) rfl rfl ?_)|apply ay (hd:=rfl)|exact zAF rfl|exact zBP rfl|exact zAy rfl|exact zA5 rfl zCq|exact zAG rfl|(apply zAC;exact rfl;(with_reducible first|exact zD2|exact zJ7))|(apply zAE;exact rfl;(with_reducible first|exact zBC|exact zAP);exact rfl;exact rfl)|(refine w0' ?_)|refine zAh rfl rfl rfl zBC rfl rfl rfl rfl ?_|apply zAL
  refine zXS 2 0 rfl ?_
  refine zBW (α:=Nat) (fun i=>i<=roots.length) (fun i=>[(0,.ptr 0 0),(5,.p (rowP o size)),(6,.buf 6 roots.length),(34,.buf 6 roots.length),(35,.d (i64 (roots.length:Int))),(36,.d (i64 (i:Int)))]) (fun i=>HG fx o all ly size (addN [] (roots.take i)) (othM all ly (addN [] (roots.take i)) 0) (roots.map (wdN all ly)) (zHc all ly (addN [] (roots.take i)) roots i)) (fun i=>roots.length-i) 0 (qAX _)
   (zAT (Le_all rfl) ?_ rfl ?_) ?_
  ·exact zAO rfl (by rw[show addN [] (roots.take 0)=[]from rfl,zN1];rfl) (zAn rfl rfl (by rw[show addN [] (roots.take 0)=[]from rfl,zN1]) (zAn rfl rfl rfl (zAn rfl rfl rfl (zAn rfl rfl rfl (zAO rfl (congrArg (Ob.bx o _) (zaB all size)) (zAn rfl rfl (by rw[zWL];exact(zVn _ _ (by rw[qAC];rfl)).symm) zAt))))))
  ·exact zIS ..
  intro i hi
  rcases qAR i roots.length with hlt'|hge
  ·have hri:roots[i]?=some roots[i]:=qAB hlt'
   have hmem:roots[i]∈roots:=qA9 hlt'
   generalize roots[i]=r at hri hmem
   have eo:=zMT (l:=[]) hri
   have hno:(addN [] (roots.take i)).Nodup:=zDj _ [] (by simp)
   have hsub:∀j∈addN [] (roots.take i),j∈ly:=zIu (by simp) fun r h=>hr r (qAW h)
   have hin:∀x∈roots.take i,In (addN [] (roots.take i)) x:=fun x h=>zLG [] _ h
   have hmv:=zN4 hn hno hsub (zKt all ly (addN [] (roots.take i)) 0) hH hsz h20 r (hr r hmem)
   rw[zQ7 (qAX _) (by simp)]at hmv
   have hnx:=zPB (all:=all) (ly:=ly) hri hin
   have hld:(w64s (zHc all ly (addN [] (roots.take i)) roots i))[((i:Nat):Int).toNat]?=some (w64 (wdN all ly r)):=by rw[qAj];exact zDe (zTJ hri)
   have hil:(i:Int)<(roots.length:Int):=by omega
   have hol:=zQa all ly (addN [] (roots.take i)) roots i
   skip
   repeat' first|apply en_n|apply zAH|apply zAA|apply zAD|apply w0|exact zC9 rfl rfl|exact zLF rfl|(apply zBZ;exact rfl;exact rfl;exact rfl;(with_reducible exact zBQ);omega;(rw[zAl];omega))|exact zCl rfl zBO rfl hld rfl|(refine zR5 [0,1,2,3,5] 4 o zKJ hmv rfl rfl (SArgs_all rfl) (zOu ..) rfl (by decide) rfl rfl (zMb _ _ _ _ _ _ _ (_,_) (_,_) (_,_) _) rfl rfl rfl ?_)|(refine zGb rfl rfl rfl zBO rfl rfl ?_ rfl ?_)|apply ay (hd:=rfl)|exact zAF rfl|exact zAB rfl|refine zBE rfl rfl ?_|exact zBP rfl|exact zAG rfl|(refine w0' ?_)|refine zAI rfl ?_|apply zAL|apply zAS|apply eb_n
   all_goals first|omega|(rw[zAl];omega)|skip
   refine⟨i+1,by omega,by omega,?_⟩
   show Fits _ (HG fx o all ly size (addN [] (roots.take (i+1))) (othM all ly (addN [] (roots.take (i+1))) 0) (roots.map (wdN all ly)) (zHc all ly (addN [] (roots.take (i+1))) roots (i+1))) _ _
   rw[eo]
   exact zAT (Le_all rfl) (zAO rfl rfl (zAn rfl rfl rfl (zAn rfl rfl rfl (zAn rfl rfl rfl (zAn rfl rfl rfl (zAO rfl (congrArg (Ob.bx o _) (zTI (fun _=>rfl) _).symm) (zAn rfl rfl (by rw[<-hnx,<-zHU];rfl) zAt))))))) rfl (zIS ..)
  ·have hil:¬(i:Int)<(roots.length:Int):=by omega
   have e:i=roots.length:=by omega
   subst e
   skip
   repeat' first|apply en_n|apply zAH|apply zAA|apply zAD|apply w0|(refine aw_c ?_)|exact zCm rfl rfl|apply ay (hd:=rfl)|exact zAB rfl|refine zAJ rfl ?_|apply zBc|apply en_e|apply eb_e
   refine zY8 ⟨(o,0,addN [] roots),Mv.start hr,?_⟩
   rw[qA4,zQb]
   exact zAT (Le_all rfl) (zAO rfl rfl (zAn rfl rfl rfl (zAn rfl rfl rfl (zAn rfl rfl rfl (zAn rfl rfl rfl (zAO rfl rfl (zAn rfl rfl rfl zAt))))))) rfl (zIS ..)
 ·rintro⟨o,k,ord⟩ hM
  have hM:Mv all ly roots k ord:=hM
  show awp _ _ _ [(0,.ptr 0 0),(5,.p (rowP o size)),(6,.buf 6 roots.length),(9,.d (i64 (posN all ord k:Int)))] (HG fx o all ly size ord (othM all ly ord k) (roots.map (wdN all ly)) (roots.map (wdN all ord)))
  have hso:sumN all ord<=sumN all ly:=zFO hM.nodup hM.sub
  have hol:=zKt all ly ord k
  rcases qAR k ord.length with hk|hk
  ·have hi:ord[k]?=some ord[k]:=qAB hk
   have hil:ord[k]∈ord:=qA9 hk
   generalize ord[k]=i at hi hil
   have hpl:posN all ord k<sumN all ord:=zMy.2 hk
   have hpn:=zQu (all:=all) hi
   have hpe:posN all ord (k+1)<=sumN all ord:=by
    rcases qAR (k+1) ord.length with h|h
    ·exact Nat.le_of_lt (zMy.2 h)
    ·unfold posN;rw[qAi h];exact qAN _
   obtain⟨hhd,hkd⟩:=hH i (hM.sub i hil)
   have htold:=zMn _ hhd
   have hnz:=zDS (zAV all i)
   have hld:(w64s (othM all ly ord k))[((posN all ord k:Nat):Int).toNat]?=some (w64 (zCt (zAV all i))):=by rw[qAj];exact zDe (zQ8 hi)
   have hlt1:(posN all ord k:Int)<((othM all ly ord k).length:Int):=by omega
   have hnx:=hM.next hlt hcl hi
   have e9:((posN all ord (k+1):Nat):Int)=(posN all ord k:Int)+(1+((zAV all i).size:Int)):=by omega
   by_cases hk4:(zAV all i).kind=4
   ·have hp0:=h4 i (hM.sub i hil) hk4
    have hx4:¬(zAV all i).kind≠4:=fun c=>c hk4
    skip
    repeat' first|apply en_n|apply zAH|apply zAA|apply zAD|apply w0|exact zC9 rfl rfl|exact zAK rfl|(apply zBZ;exact rfl;exact rfl;exact rfl;(with_reducible exact zBQ);omega;(rw[zAl];omega))|exact zCl rfl zBO rfl hld rfl|(refine zAb zEY htold (zAY rfl zAM))|apply ay (hd:=rfl)|exact zAF rfl|exact zAB rfl|refine zBE rfl rfl ?_|exact zAg rfl rfl|exact zA5 rfl zCq|exact zAG rfl|exact zAC rfl zD2|exact zAE rfl zBC rfl rfl|refine zAI rfl ?_|apply zAL
    all_goals first|omega|skip
    refine zBW (α:=Unit) (fun _=>True) (fun _=>[(0,.ptr 0 0),(5,.p (rowP o size)),(6,.buf 6 roots.length),(9,.d (i64 (posN all ord k:Int))),(10,.d (i64 (zAV all i).kind)),(12,.d (i64 ((zAV all i).size:Int)))]) (fun _=>HG fx o all ly size ord (othM all ly ord k) (roots.map (wdN all ly)) (roots.map (wdN all ord))) (fun _=>0) () trivial
     (zAT (Le_all rfl) (zAO rfl rfl (zAn rfl rfl rfl (zAn rfl rfl rfl (zAn rfl rfl rfl (zAn rfl rfl rfl (zAO rfl rfl (zAn rfl rfl rfl zAt))))))) rfl (zIS ..)) ?_
    intro _ _
    clear hlt1
    skip
    repeat' first|apply en_n|apply zAH|apply zAA|apply zAD|apply w0|exact zFI rfl rfl|(apply k1u (hd:=rfl);exact rfl;exact rfl)|apply ay (hd:=rfl)|exact zAF rfl|exact zAB rfl|refine zBE rfl rfl ?_|exact zAX rfl rfl|refine zAJ rfl ?_|apply zBc|apply zOb|apply en_e|apply eb_e|apply en_g|apply ej_g
    all_goals first|omega|skip
    refine⟨(o,k+1,ord),?_,?_,?_⟩
    ·rw[hp0]at hnx;exact hnx
    ·show all.length+1-(k+1)<all.length+1-k
     have:=zHj hM.nodup fun j hj=>hlt j (hM.sub j hj)
     omega
    ·exact zAT (Le_cons rfl (Le_cons rfl (Le_cons rfl (Le_d rfl (congrArg (fun x=>D.val (.int .i64 x)) e9) Le_nil)))) (zAO rfl (by show Ob.bx _ _ [_,.buf 2 (othM all ly ord (k+1)).length,_,_]=_;rw[<-zLl hi hk4]) (zAn rfl rfl rfl (zAn rfl rfl (by rw[<-zLl hi hk4]) (zAn rfl rfl rfl (zAn rfl rfl rfl (zAO rfl rfl (zAn rfl rfl rfl zAt))))))) rfl (zIS ..)
   ·have hx4:(zAV all i).kind≠4:=hk4
    have hps:(zAV all i).size=(zAV all i).parts.length:=by unfold Thing.size Thing.need;rw[if_neg hk4];omega
    clear hnz
    skip
    repeat' first|apply en_n|apply zAH|apply zAA|apply zAD|apply w0|exact zC9 rfl rfl|exact zAK rfl|(apply zBZ;exact rfl;exact rfl;exact rfl;(with_reducible exact zBQ);omega;(rw[zAl];omega))|exact zCl rfl zBO rfl hld rfl|(refine zAb zEY htold (zAY rfl zAM))|apply ay (hd:=rfl)|exact zAF rfl|exact zAB rfl|refine zBE rfl rfl ?_|exact zAg rfl rfl|exact zA5 rfl zCq|exact zAG rfl|exact zAC rfl zD2|exact zAE rfl zBC rfl rfl|refine zAI rfl ?_|apply zAL
    all_goals first|omega|skip
    clear hld
    refine zBW (α:=Nat) (fun j=>j<=(zAV all i).parts.length) (fun j=>[(0,.ptr 0 0),(5,.p (rowP o size)),(6,.buf 6 roots.length),(9,.d (i64 (posN all ord k:Int))),(10,.d (i64 (zAV all i).kind)),(12,.d (i64 ((zAV all i).size:Int))),(13,.d (i64 ((posN all ord k:Int)+1+(j:Int))))]) (fun j=>HG fx o all ly size (addN ord ((zAV all i).parts.take j)) (othP all ly (addN ord ((zAV all i).parts.take j)) k j) (roots.map (wdN all ly)) (roots.map (wdN all ord))) (fun j=>(zAV all i).parts.length-j) 0 (qAX _)
     (zAT (Le_cons rfl (Le_cons rfl (Le_cons rfl (Le_cons rfl (Le_cons rfl (Le_cons rfl (Le_d rfl (congrArg (fun x=>D.val (.int .i64 x)) (by omega)) Le_nil))))))) (zAO rfl (by show Ob.bx _ _ [_,.buf 2 (othP all ly ord k 0).length,_,_]=_;rw[<-zU2 hi hk4];rfl) (zAn rfl rfl rfl (zAn rfl rfl (by show w64s (othP all ly ord k 0)=_;rw[<-zU2 hi hk4]) (zAn rfl rfl rfl (zAn rfl rfl rfl (zAO rfl rfl (zAn rfl rfl rfl zAt))))))) rfl (zIS ..)) ?_
    intro j hj
    have hpre:ord <+: addN ord ((zAV all i).parts.take j):=zEu _ _
    have hkle:k<=ord.length:=Nat.le_of_lt hk
    have hi':(addN ord ((zAV all i).parts.take j))[k]?=some i:=by
     obtain⟨q,e⟩:=hpre
     rw[<-e,qAF hk];exact hi
    have hin:∀r∈(zAV all i).parts.take j,In (addN ord ((zAV all i).parts.take j)) r:=fun r h=>zLG ord _ h
    have hly:∀r∈(zAV all i).parts,In ly r:=fun r h q e=>hcl i (hM.sub i hil) q (by rw[<-e];exact h)
    have hno:(addN ord ((zAV all i).parts.take j)).Nodup:=zDj _ _ hM.nodup
    have hsub:∀q∈addN ord ((zAV all i).parts.take j),q∈ly:=zIu hM.sub fun r h=>hly r (qAW h)
    have hcc:∀x∈(addN ord ((zAV all i).parts.take j)).take k,∀r∈(zAV all x).parts,In (addN ord ((zAV all i).parts.take j)) r:=fun x hx r hr=>by
     obtain⟨q,e⟩:=hpre
     rw[<-e,qBA hkle]at hx
     exact(hM.closed x hx r hr).pre (zEu _ _)
    have hpo:posN all (addN ord ((zAV all i).parts.take j)) k=posN all ord k:=zKn hpre hkle
    have hXl:=zNz (all:=all) (ly:=ly) (j:=j) hi' hk4
    have hpp:posN all ord (k+1)<=sumN all (addN ord ((zAV all i).parts.take j)):=by
     have h1:sumN all ord<=sumN all (addN ord ((zAV all i).parts.take j)):=zFO hM.nodup fun q hq=>hpre.subset hq
     omega
    have hsl:sumN all (addN ord ((zAV all i).parts.take j))<=sumN all ly:=zFO hno hsub
    rcases qAR j (zAV all i).parts.length with hjl|hjl
    ·have hri:(zAV all i).parts[j]?=some (zAV all i).parts[j]:=qAB hjl
     have hmem:(zAV all i).parts[j]∈(zAV all i).parts:=qA9 hjl
     generalize (zAV all i).parts[j]=r at hri hmem
     have eo:=zMT (l:=ord) hri
     have hmv:=zN4 hn hno hsub hXl hH hsz h20 r (hly r hmem)
     rw[zTh hi' hcc hin r]at hmv
     have hi2:(addN (addN ord ((zAV all i).parts.take j)) [r])[k]?=some i:=by
      obtain⟨q,e⟩:=zIl (addN ord ((zAV all i).parts.take j)) r
      rw[<-e,qAF (qAY hk hpre.length_le)];exact hi'
     have hnx2:=zTg (all:=all) (ly:=ly) hi2 hri
     have hpo2:posN all (addN (addN ord ((zAV all i).parts.take j)) [r]) k=posN all ord k:=(zKn (zIl _ r) (qA2 hkle hpre.length_le)).trans hpo
     have hXl2:=zNz (all:=all) (ly:=ly) (j:=j) hi2 hk4
     have hsl2:sumN all (addN ord ((zAV all i).parts.take j))<=sumN all (addN (addN ord ((zAV all i).parts.take j)) [r]):=zFO hno fun q hq=>(zIl _ r).subset hq
     have hat:((posN all ord k:Int)+1+(j:Int)).toNat=posN all ord k+1+j:=by omega
     have hld:(w64s (othP all ly (addN ord ((zAV all i).parts.take j)) k j))[((posN all ord k:Int)+1+(j:Int)).toNat]?=some (w64 (wdN all ly r)):=by rw[hat,<-hpo];exact zDe (zWd hi' hri)
     have hil:(posN all ord k:Int)+1+(j:Int)<=(posN all ord k:Int)+((zAV all i).size:Int):=by omega
     clear hnx htold
     skip
     repeat' first|apply en_n|apply zAH|apply zAA|apply zAD|apply w0|exact zOi rfl rfl|exact zGI rfl rfl|exact zAK rfl|exact zLF rfl|(apply zBZ;exact rfl;exact rfl;exact rfl;(with_reducible exact zBQ);omega;(rw[zAl];omega))|exact zCl rfl zBO rfl hld rfl|(refine zR5 [0,1,2,3,5] 4 o zKJ hmv rfl rfl (SArgs_all rfl) (zOu ..) rfl (by decide) rfl rfl (zMb _ _ _ _ _ _ _ (_,_) (_,_) (_,_) _) rfl rfl rfl ?_)|(refine zGb rfl rfl rfl zBO rfl rfl ?_ rfl ?_)|apply ay (hd:=rfl)|exact zAF rfl|exact zAB rfl|refine zBE rfl rfl ?_|exact zAa rfl rfl|exact zAG rfl|exact zAC rfl zD2|exact zAE rfl zBC rfl rfl|refine w1 rfl rfl ?_|(refine w0' ?_)|refine zAI rfl ?_|apply zAL|apply zAS|apply eb_n
     all_goals first|omega|(rw[zAl];omega)|skip
     refine⟨j+1,by omega,by omega,?_⟩
     show Fits _ (HG fx o all ly size (addN ord ((zAV all i).parts.take (j+1))) (othP all ly (addN ord ((zAV all i).parts.take (j+1))) k (j+1)) (roots.map (wdN all ly)) (roots.map (wdN all ord))) _ _
     rw[eo,<-hnx2,hpo2]
     exact zAT (Le_cons rfl (Le_cons rfl (Le_cons rfl (Le_cons rfl (Le_cons rfl (Le_cons rfl (Le_d rfl (congrArg (fun x=>D.val (.int .i64 x)) (by omega)) Le_nil))))))) (zAO rfl (by rw[qAa];rfl) (zAn rfl rfl rfl (zAn rfl rfl (by rw[<-hat,<-zHU]) (zAn rfl rfl rfl (zAn rfl rfl rfl (zAO rfl (congrArg (Ob.bx o _) (zTI (fun _=>rfl) _).symm) (zAn rfl rfl rfl zAt))))))) rfl (zIS ..)
    ·have hje:j=(zAV all i).parts.length:=by omega
     have hil:¬(posN all ord k:Int)+1+(j:Int)<=(posN all ord k:Int)+((zAV all i).size:Int):=by omega
     clear htold
     skip
     repeat' first|apply en_n|apply zAH|apply zAA|apply zAD|apply w0|exact zMV rfl rfl|exact zGI rfl rfl|apply ay (hd:=rfl)|exact zAF rfl|exact zAB rfl|refine zBE rfl rfl ?_|exact zAa rfl rfl|refine w1 rfl rfl ?_|refine zAJ rfl ?_|apply zBc|apply zOb|apply en_e|apply eb_e|apply en_g|apply ej_g
     all_goals first|omega|skip
     refine⟨(o,k+1,addN ord (zAV all i).parts),hnx,?_,?_⟩
     ·show all.length+1-(k+1)<all.length+1-k
      have:=zHj hM.nodup fun j hj=>hlt j (hM.sub j hj)
      omega
     ·have ho4:=zTi (all:=all) (ly:=ly) hi' hk4
      subst hje
      rw[qA4]at ho4 hpre hin
      have e10:posN all (addN ord (zAV all i).parts) (k+1)=posN all ord (k+1):=zKn hpre hk
      have em:roots.map (wdN all (addN ord (zAV all i).parts))=roots.map (wdN all ord):=zKx hpre hM.rt
      show Fits [_,_,_,(9,.d (i64 (posN all (addN ord (zAV all i).parts) (k+1):Int)))] (HG fx o all ly size (addN ord (zAV all i).parts) (othM all ly (addN ord (zAV all i).parts) (k+1)) (roots.map (wdN all ly)) (roots.map (wdN all (addN ord (zAV all i).parts)))) _ _
      rw[em,<-ho4,qA4,e10]
      exact zAT (Le_cons rfl (Le_cons rfl (Le_cons rfl (Le_d rfl (congrArg (fun x=>D.val (.int .i64 x)) e9) Le_nil)))) (zAO rfl rfl (zAn rfl rfl rfl (zAn rfl rfl rfl (zAn rfl rfl rfl (zAn rfl rfl rfl (zAO rfl rfl (zAn rfl rfl rfl zAt))))))) rfl (zIS ..)
  ·obtain⟨hnd,hke⟩:=hM.fin hk
   rw[hnd]
   have hbo:(begL all ord size).length=size:=zJf all ord (by omega)
   have hoe:othM all ly ord k=zBs all ord:=by rw[hke,zTk]
   rw[hoe]at hol ⊢
   refine zRr 5 5 size rfl rfl (by rw[zGE,hbo]) (by show size<=maxLen;simp only[maxLen];omega) (fun d hd=>by obtain⟨x,_,rfl⟩:=qBE.1 hd;rfl) rfl ?_
   refine zDa (s:=[(0,.ptr 0 0),(5,.buf 5 size),(6,.buf 6 roots.length),(9,.d (i64 (posN all ord k:Int)))]) (h:=[.bx (fx 0) none [.buf 1 (nowM all ly ord).length,.buf 2 (zBs all ord).length,.d (i64 (size:Int)),.buf 3 (begL all ly size).length],.buf true 58 1 (w64s (nowM all ly ord)),.buf true 58 1 (w64s (zBs all ord)),.buf true 4 1 (bls (begL all ly size)),.buf true 58 1 (w64s (roots.map (wdN all ly))),.buf true 4 1 (bls (begL all ord size)),.buf true 58 1 (w64s (roots.map (wdN all ord)))]) ?_ ?_
   ·exact zAT (Le_all rfl) (zAO rfl rfl (zAn rfl rfl rfl (zAn rfl rfl rfl (zAn rfl rfl rfl (zAn rfl rfl rfl (zAn rfl rfl rfl (zAn rfl rfl rfl zAt))))))) rfl rfl
   refine zHt 1 2 rfl rfl rfl rfl ?_
   refine zDa (s:=[(0,.ptr 0 0),(5,.buf 5 size),(6,.buf 6 roots.length),(9,.d (i64 (posN all ord k:Int)))]) (h:=[.bx (fx 0) none [.buf 2 (nowM all ly ord).length,.buf 1 (zBs all ord).length,.d (i64 (size:Int)),.buf 3 (begL all ly size).length],.buf true 58 1 (w64s (zBs all ord)),.buf true 58 1 (w64s (nowM all ly ord)),.buf true 4 1 (bls (begL all ly size)),.buf true 58 1 (w64s (roots.map (wdN all ly))),.buf true 4 1 (bls (begL all ord size)),.buf true 58 1 (w64s (roots.map (wdN all ord)))]) ?_ ?_
   ·exact zAT (Le_all rfl) (zAO rfl rfl (zAn rfl rfl rfl (zAn rfl rfl rfl (zAn rfl rfl rfl (zAn rfl rfl rfl (zAn rfl rfl rfl (zAn rfl rfl rfl zAt))))))) rfl rfl
   refine zHt 3 5 rfl rfl rfl rfl ?_
   refine zDa (s:=[(0,.ptr 0 0),(5,.buf 3 size),(6,.buf 6 roots.length),(9,.d (i64 (posN all ord k:Int)))]) (h:=[.bx (fx 0) none [.buf 2 (nowM all ly ord).length,.buf 1 (zBs all ord).length,.d (i64 (size:Int)),.buf 5 (begL all ly size).length],.buf true 58 1 (w64s (zBs all ord)),.buf true 58 1 (w64s (nowM all ly ord)),.buf true 4 1 (bls (begL all ord size)),.buf true 58 1 (w64s (roots.map (wdN all ly))),.gone,.buf true 58 1 (w64s (roots.map (wdN all ord)))]) ?_ ?_
   ·exact zAT (Le_all rfl) (zAO rfl rfl (zAn rfl rfl rfl (zAn rfl rfl rfl (zAn rfl rfl rfl (zAn rfl rfl rfl (zHx rfl (zAn rfl rfl rfl zAt))))))) rfl rfl
   have hlt1:¬(posN all ord k:Int)<((zBs all ord).length:Int):=by
    have:=zMy (all:=all) (ord:=ord) (k:=k)
    omega
   skip
   repeat' first|(refine zMN [.ptr 0 0,.ptr 0 0,.ptr 0 0,.ptr 0 0,.ptr 0 0,.ptr 0 (0+1),.buf 1 (zBs all ord).length,.ptr 0 0,.ptr 0 0,.ptr 0 (0+0),.buf 2 (nowM all ly ord).length,.buf 3 size,.ptr 0 0,.ptr 0 (0+0),.top,.ptr 0 0,.ptr 0 (0+1),.top,.ptr 0 0,.ptr 0 (0+3),.top] [14,17,20] [[.bx (fx 0) none [.buf 2 (nowM all ly ord).length,.buf 1 (zBs all ord).length,.d (i64 (size:Int)),.buf 5 (begL all ly size).length],.buf true 58 1 (w64s (zBs all ord)),.buf true 58 1 (w64s (nowM all ly ord)),.buf true 4 1 (bls (begL all ord size)),.buf true 58 1 (w64s (roots.map (wdN all ly))),.gone,.buf true 58 1 (w64s (roots.map (wdN all ord)))],[.bx (fx 0) none [.buf 1 (zBs all ord).length,.buf 1 (zBs all ord).length,.d (i64 (size:Int)),.buf 5 (begL all ly size).length],.buf true 58 1 (w64s (zBs all ord)),.buf true 58 1 (w64s (nowM all ly ord)),.buf true 4 1 (bls (begL all ord size)),.buf true 58 1 (w64s (roots.map (wdN all ly))),.gone,.buf true 58 1 (w64s (roots.map (wdN all ord)))],[.bx (fx 0) none [.buf 1 (zBs all ord).length,.buf 2 (nowM all ly ord).length,.d (i64 (size:Int)),.buf 5 (begL all ly size).length],.buf true 58 1 (w64s (zBs all ord)),.buf true 58 1 (w64s (nowM all ly ord)),.buf true 4 1 (bls (begL all ord size)),.buf true 58 1 (w64s (roots.map (wdN all ly))),.gone,.buf true 58 1 (w64s (roots.map (wdN all ord)))],[.bx (fx 0) none [.buf 1 (zBs all ord).length,.buf 2 (nowM all ly ord).length,.d (i64 (size:Int)),.buf 3 size],.buf true 58 1 (w64s (zBs all ord)),.buf true 58 1 (w64s (nowM all ly ord)),.buf true 4 1 (bls (begL all ord size)),.buf true 58 1 (w64s (roots.map (wdN all ly))),.gone,.buf true 58 1 (w64s (roots.map (wdN all ord)))]] (by kernel_rfl) (by kernel_rfl) rfl (.inl rfl) rfl (by kernel_rfl) rfl rfl ?_ ?_)|apply en_n|apply zAH|apply zAA|apply zAD|apply w0|exact zNi|(refine zF1 rfl rfl rfl (fun η=>zAG rfl) ?_)|(refine zF1 rfl rfl rfl (fun η=>zBP rfl) ?_)|(refine zF1 rfl rfl rfl (fun η=>zAK rfl) ?_)|(refine zF1 rfl rfl rfl (fun η=>zAC rfl (by first|with_reducible exact zCv|with_reducible exact zD2|with_reducible exact zGi)) ?_)|(refine zKg 0 0 rfl rfl rfl (by kernel_rfl) (by kernel_rfl) (zFK (zAE rfl (by with_reducible exact zBC) rfl rfl) zIx) ?_)|(refine zKB _ rfl rfl rfl rfl (by first|with_reducible exact zBC|with_reducible exact zIb) rfl rfl rfl rfl rfl rfl ?_)|exact zCm rfl rfl|exact zAK rfl|apply ay (hd:=rfl)|exact zAF rfl|exact zBP rfl|exact zAy rfl|exact zA5 rfl zCq|exact zAG rfl|exact zAC rfl zD2|exact zAE rfl zBC rfl rfl|refine zAJ rfl ?_|apply zAS|apply zAQ|apply ej_r
   all_goals first|omega|skip
   exact zDF (zAT (Le_all rfl) (zAO rfl (by show Ob.bx _ _ [_,_,_,.buf 3 (begL all ord size).length]=_;rw[hbo]) (zAn rfl rfl rfl (zAn rfl rfl rfl (zAn rfl rfl rfl (zAn rfl rfl rfl (zHx rfl (zAn rfl rfl rfl zAt))))))) rfl rfl)
end Go.Proofs.YtcagoomibpcdlaaGreatDoor
