/- Texts of this claim, merged: VmN. -/
import Derived.Test.YtcagoomibpcdlaaGreatDoorMAB
import Derived.Test.YtcagoomibpcdlaaGreatDoorMAK
namespace Go.Proofs.YtcagoomibpcdlaaGreatDoor
open Go.Sx Go.Vm
abbrev HG(fx:Nat→Option Nat)(o:Option Nat)(all:List Thing)(ly:List Nat)(size:Nat)(ord X st out:List Nat): List Ob :=
 [.bx (fx 0) none [.buf 1 (nowM all ly ord).length,.buf 2 X.length,.d (i64 (size:Int)),.buf 3 (begL all ly size).length],.buf true 58 1 (w64s (nowM all ly ord)),.buf true 58 1 (w64s X),.buf true 4 1 (bls (begL all ly size)),.buf true 58 1 (w64s st),.bx o (some 4) ((bls (begL all ord size)).map .d),.buf true 58 1 (w64s out)]
theorem zZQ(all:List Thing)(size:Nat): (bls (begL all [] size)).map SV.d=List.replicate size (.d (bl false)):=by
 simp[bls,begL,sumN,List.map_replicate]
theorem zIB(fx:Nat→Option Nat)(o:Option Nat)(all:List Thing)(ly:List Nat)(size:Nat)(ord X st out:List Nat): (HG fx o all ly size ord X st out).all (Ob.below 7)=true:=by
 simp only[List.all_cons,List.all_nil,Ob.below,zIt];rfl
theorem zOJ(fx:Nat→Option Nat)(o:Option Nat)(all:List Thing)(ly:List Nat)(size:Nat)(ord X st out:List Nat): Picks (HG fx o all ly size ord X st out) [0,1,2,3,5] (HC all ly size ord X):=by
 show _=[_,_,_,_,some (Ob.ren _ (Ob.bx _ _ ((bls (begL all ord size)).map SV.d)))]
 rw[zVW];rfl
theorem zUz(l:List Nat)(n:Nat)(h:l.length=n): (w64s l).take (List.replicate n (w64 0)).length++(List.replicate n (w64 0)).drop (w64s l).length=w64s l:=by
 rw[List.length_replicate,List.take_of_length_le (by rw[zAk];omega),List.drop_eq_nil_of_le (by rw[List.length_replicate,zAk];omega),List.append_nil]
theorem zDk: (zA3 Tryz.prog 56).isSome=true:=by rw[zBS];rfl
theorem zd_w: zIf Tryz.prog 58=some (w64 0):=by kernel_rfl
theorem zd_b: zIf Tryz.prog 4=some (bl false):=by kernel_rfl
attribute [local irreducible] zAQ Program.underlying Ylds zBD alex zCA zBi awp zAp zCI zCH zAW zBw zA5 zB0 zBp zBF zBv zB9 zCE zBn zBm zBs
set_option maxHeartbeats 4000000 in
theorem zPK{all:List Thing}{ly:List Nat}{size:Nat}(oth:List Nat)(roots:List Rf)(hn:ly.Nodup)(hlt:∀i∈ly,i<all.length)(hcl:Closed all ly)(hH:∀i∈ly,HeadOk (zAX all i)∧1≤(zAX all i).kind)(h4:∀i∈ly,(zAX all i).kind=4→(zAX all i).parts=[])(hsz:sumN all ly≤size)(h20:size≤1048576)(hr:∀r∈roots,In ly r)(hrl:roots.length≤1048576):
  zAW Tryz.prog 130 [.ptr 0 0,.buf 4 roots.length] (HO (size:Int) (zBj all ly) oth (begL all ly size)++[Ob.buf true 58 1 (w64s (roots.map (wdN all ly)))]) (.buf 6 roots.length) (HO (size:Int) (zBj all (zDc all roots)) (nowM all ly (zDc all roots)) (begL all (zDc all roots) size)++[Ob.buf true 58 1 (w64s (roots.map (wdN all ly))),Ob.gone,Ob.buf true 58 1 (w64s (roots.map (wdN all (zDc all roots))))]):=by
 have hb4:=zJO all ly hsz
 refine zFB Tryz.func130 rfl Tryz.ntmps130 Tryz.results130 rfl rfl rfl ?_
 intro wb St0 X fx
 repeat' first|apply en_n|apply zAK|apply zAA|apply zAF|apply w0|apply ay (hd:=rfl)|exact zCB rfl
 refine zMt (α:=Option Nat×Nat×List Nat) [_,_,_,_,_,_] 0 rfl rfl (fun y=>Mv all ly roots y.2.1 y.2.2) (fun y=>[(0,.ptr 0 0),(5,.p (rowP y.1 size)),(6,.buf 6 roots.length),(9,.d (i64 (posN all y.2.2 y.2.1:Int)))]) (fun y=>HG fx y.1 all ly size y.2.2 (othM all ly y.2.2 y.2.1) (roots.map (wdN all ly)) (roots.map (wdN all y.2.2))) (fun y=>all.length+1-y.2.1) ?_ ?_
 ·skip
  repeat' first|apply en_n|apply zAK|apply zAA|apply zAF|apply w0|(refine aw_c ?_)|exact zAN rfl|exact zPH rfl|(apply zFb (m:=oth.length) (n:=0) (k:=.i64);exact rfl;(with_reducible exact zDk);exact rfl;omega;exact⟨_,_,_,w64s oth,rfl,Nat.le_of_eq (zAk _).symm⟩)|(refine zTx rfl rfl (by with_reducible exact zKy) (by with_reducible exact zGV) (by with_reducible exact zd_b) rfl (by with_reducible exact zM8) rfl rfl (by omega) ?_;intro o)|(apply zWg;exact rfl;exact rfl;(with_reducible exact zCT);(with_reducible exact zBS);(with_reducible exact zd_w);exact rfl;exact rfl;(with_reducible exact zDm);exact rfl;exact rfl;omega)|(refine zUe (sz:=1) (ys:=w64s (roots.map (wdN all ly))) rfl rfl (by rw[List.length_replicate]) rfl rfl (by rw[zAk,List.length_map,Nat.zero_add];exact Nat.le_refl _) (by rw[List.drop_zero,List.take_of_length_le (by rw[zAk,List.length_map];exact Nat.le_refl _)]) (by with_reducible exact zBS) (zGv _) rfl rfl ?_)|apply ay (hd:=rfl)|exact zAJ rfl|exact zBR rfl|exact zAz rfl|(apply zA4;exact rfl;(with_reducible exact zCj))|exact zAH rfl|(apply zAC;exact rfl;(with_reducible first|exact zDo|exact zJm))|(apply zAG;exact rfl;(with_reducible first|exact zBC|exact zAS);exact rfl;exact rfl)|(refine w0' ?_)|(apply zAl;exact rfl;exact rfl;exact rfl;(with_reducible exact zBC);exact rfl;exact rfl;exact rfl;exact rfl)|apply zAO
  refine zWa 2 0 rfl ?_
  refine zBo (α:=Nat) (fun i=>i≤roots.length) (fun i=>[(0,.ptr 0 0),(5,.p (rowP o size)),(6,.buf 6 roots.length),(34,.buf 6 roots.length),(35,.d (i64 (roots.length:Int))),(36,.d (i64 (i:Int)))]) (fun i=>HG fx o all ly size (addN [] (roots.take i)) (othM all ly (addN [] (roots.take i)) 0) (roots.map (wdN all ly)) (zHN all ly (addN [] (roots.take i)) roots i)) (fun i=>roots.length-i) 0 (Nat.zero_le _)
   (zAV (zAI rfl (zAI rfl (zAI rfl (zAI rfl (zAI rfl (zAI rfl zAd)))))) ?_ rfl ?_) ?_
  ·exact zAP rfl (by rw[show addN [] (roots.take 0)=[]from rfl,zNW];rfl) (zAo rfl rfl (by rw[show addN [] (roots.take 0)=[]from rfl,zNW]) (zAo rfl rfl rfl (zAo rfl rfl rfl (zAo rfl rfl rfl (zAP rfl (congrArg (Ob.bx o _) (zZQ all size)) (zAo rfl rfl (by rw[zVX];exact(zUz _ _ (by rw[List.length_map];rfl)).symm) zA7))))))
  ·exact zIB ..
  intro i hi
  rcases Nat.lt_or_ge i roots.length with hlt'|hge
  ·have hri:roots[i]?=some roots[i]:=List.getElem?_eq_getElem hlt'
   have hmem:roots[i]∈roots:=List.getElem_mem hlt'
   generalize roots[i]=r at hri hmem
   have eo:=zL0 (l:=[]) hri
   have hno:(addN [] (roots.take i)).Nodup:=zDW _ [] (by simp)
   have hsub:∀j∈addN [] (roots.take i),j∈ly:=zIa (by simp) fun r h=>hr r (List.mem_of_mem_take h)
   have hin:∀x∈roots.take i,In (addN [] (roots.take i)) x:=fun x h=>zKu [] _ h
   have hmv:=zNZ hn hno hsub (zKY all ly (addN [] (roots.take i)) 0) hH hsz h20 r (hr r hmem)
   rw[zQV (Nat.zero_le _) (by simp)]at hmv
   have hnx:=zOa (all:=all) (ly:=ly) hri hin
   have hld:(w64s (zHN all ly (addN [] (roots.take i)) roots i))[((i:Nat):Int).toNat]?=some (w64 (wdN all ly r)):=by rw[Int.toNat_natCast];exact zDS (zSg hri)
   have hil:(i:Int)<(roots.length:Int):=by omega
   have hol:=zPz all ly (addN [] (roots.take i)) roots i
   skip
   repeat' first|apply en_n|apply zAK|apply zAA|apply zAF|apply w0|(apply zC9;exact rfl;exact rfl;first|assumption|omega)|exact zKt rfl|(apply zBY;exact rfl;exact rfl;exact rfl;(with_reducible exact zBS);omega;(rw[zAk];omega))|(apply zCg;exact rfl;(with_reducible exact zBQ);exact rfl;exact hld;exact rfl)|(refine zRR [0,1,2,3,5] 4 o zJy hmv rfl rfl ?_ (zOJ ..) rfl (by decide) rfl rfl (zL9 _ _ _ _ _ _ _ (_,_) (_,_) (_,_) _) rfl rfl rfl ?_;(repeat (refine zAB rfl ?_));exact zAE)|(refine zGH rfl rfl rfl zBQ rfl rfl ?_ rfl ?_)|apply ay (hd:=rfl)|exact zAJ rfl|exact zAD rfl|(apply zBL;exact rfl;exact rfl)|exact zBR rfl|exact zAH rfl|(refine w0' ?_)|(apply zAL;exact rfl)|apply zAO|apply zAU|apply eb_n
   all_goals first|omega|(rw[zAk];omega)|skip
   refine⟨i+1,by omega,by omega,?_⟩
   show Fits _ (HG fx o all ly size (addN [] (roots.take (i+1))) (othM all ly (addN [] (roots.take (i+1))) 0) (roots.map (wdN all ly)) (zHN all ly (addN [] (roots.take (i+1))) roots (i+1))) _ _
   rw[eo]
   exact zAV (zAI rfl (zAI rfl (zAI rfl (zAI rfl (zAI rfl (zAI rfl zAd)))))) (zAP rfl rfl (zAo rfl rfl rfl (zAo rfl rfl rfl (zAo rfl rfl rfl (zAo rfl rfl rfl (zAP rfl (congrArg (Ob.bx o _) (zSf (fun _=>rfl) _).symm) (zAo rfl rfl (by rw[←hnx,←zHE];rfl) zA7))))))) rfl (zIB ..)
  ·have hil:¬(i:Int)<(roots.length:Int):=by omega
   have e:i=roots.length:=by omega
   subst e
   skip
   repeat' first|apply en_n|apply zAK|apply zAA|apply zAF|apply w0|(refine aw_c ?_)|(apply zCk;exact rfl;exact rfl;first|assumption|omega)|apply ay (hd:=rfl)|exact zAD rfl|(apply zAM;exact rfl)|apply zBu|apply en_e|apply eb_e
   refine zYJ ⟨(o,0,addN [] roots),Mv.start hr,?_⟩
   rw[List.take_length,zP0]
   exact zAV (zAI rfl (zAI rfl (zAI rfl (zAI rfl zAd)))) (zAP rfl rfl (zAo rfl rfl rfl (zAo rfl rfl rfl (zAo rfl rfl rfl (zAo rfl rfl rfl (zAP rfl rfl (zAo rfl rfl rfl zA7))))))) rfl (zIB ..)
 ·rintro⟨o,k,ord⟩ hM
  have hM:Mv all ly roots k ord:=hM
  show awp _ _ _ [(0,.ptr 0 0),(5,.p (rowP o size)),(6,.buf 6 roots.length),(9,.d (i64 (posN all ord k:Int)))] (HG fx o all ly size ord (othM all ly ord k) (roots.map (wdN all ly)) (roots.map (wdN all ord)))
  have hso:sumN all ord≤sumN all ly:=zE7 hM.nodup hM.sub
  have hol:=zKY all ly ord k
  rcases Nat.lt_or_ge k ord.length with hk|hk
  ·have hi:ord[k]?=some ord[k]:=List.getElem?_eq_getElem hk
   have hil:ord[k]∈ord:=List.getElem_mem hk
   generalize ord[k]=i at hi hil
   have hpl:posN all ord k<sumN all ord:=zMU.2 hk
   have hpn:=zQI (all:=all) hi
   have hpe:posN all ord (k+1)≤sumN all ord:=by
    rcases Nat.lt_or_ge (k+1) ord.length with h|h
    ·exact Nat.le_of_lt (zMU.2 h)
    ·unfold posN;rw[List.take_of_length_le h];exact Nat.le_refl _
   obtain⟨hhd,hkd⟩:=hH i (hM.sub i hil)
   have htold:=zML _ hhd
   have hnz:=zDI (zAX all i)
   have hld:(w64s (othM all ly ord k))[((posN all ord k:Nat):Int).toNat]?=some (w64 (zCm (zAX all i))):=by rw[Int.toNat_natCast];exact zDS (zQW hi)
   have hlt1:(posN all ord k:Int)<((othM all ly ord k).length:Int):=by omega
   have hnx:=hM.next hlt hcl hi
   have e9:((posN all ord (k+1):Nat):Int)=(posN all ord k:Int)+(1+((zAX all i).size:Int)):=by omega
   by_cases hk4:(zAX all i).kind=4
   ·have hp0:=h4 i (hM.sub i hil) hk4
    have hx4:¬(zAX all i).kind≠4:=fun c=>c hk4
    skip
    repeat' first|apply en_n|apply zAK|apply zAA|apply zAF|apply w0|(apply zC9;exact rfl;exact rfl;first|assumption|omega)|exact zAN rfl|(apply zBY;exact rfl;exact rfl;exact rfl;(with_reducible exact zBS);omega;(rw[zAk];omega))|(apply zCg;exact rfl;(with_reducible exact zBQ);exact rfl;exact hld;exact rfl)|(refine zAh zEQ htold (zAa rfl zAR))|apply ay (hd:=rfl)|exact zAJ rfl|exact zAD rfl|(apply zBL;exact rfl;exact rfl)|exact zAm rfl rfl|(apply zA4;exact rfl;(with_reducible exact zCj))|exact zAH rfl|(apply zAC;exact rfl;(with_reducible exact zDo))|(apply zAG;exact rfl;(with_reducible exact zBC);exact rfl;exact rfl)|(apply zAL;exact rfl)|apply zAO
    all_goals first|omega|skip
    refine zBo (α:=Unit) (fun _=>True) (fun _=>[(0,.ptr 0 0),(5,.p (rowP o size)),(6,.buf 6 roots.length),(9,.d (i64 (posN all ord k:Int))),(10,.d (i64 (zAX all i).kind)),(12,.d (i64 ((zAX all i).size:Int)))]) (fun _=>HG fx o all ly size ord (othM all ly ord k) (roots.map (wdN all ly)) (roots.map (wdN all ord))) (fun _=>0) () trivial
     (zAV (zAI rfl (zAI rfl (zAI rfl (zAI rfl (zAI rfl (zAI rfl zAd)))))) (zAP rfl rfl (zAo rfl rfl rfl (zAo rfl rfl rfl (zAo rfl rfl rfl (zAo rfl rfl rfl (zAP rfl rfl (zAo rfl rfl rfl zA7))))))) rfl (zIB ..)) ?_
    intro _ _
    clear hlt1
    skip
    repeat' first|apply en_n|apply zAK|apply zAA|apply zAF|apply w0|(apply zGJ;exact rfl;exact rfl;first|assumption|omega)|(apply k1u (hd:=rfl);exact rfl;exact rfl)|apply ay (hd:=rfl)|exact zAJ rfl|exact zAD rfl|(apply zBL;exact rfl;exact rfl)|exact zAc rfl rfl|(apply zAM;exact rfl)|apply zBu|apply zN3|apply en_e|apply eb_e|apply en_g|apply ej_g
    all_goals first|omega|skip
    refine⟨(o,k+1,ord),?_,?_,?_⟩
    ·rw[hp0]at hnx;exact hnx
    ·show all.length+1-(k+1)<all.length+1-k
     have:=zHV hM.nodup fun j hj=>hlt j (hM.sub j hj)
     omega
    ·exact zAV (zAI rfl (zAI rfl (zAI rfl (Le_d rfl (congrArg (fun x=>D.val (.int .i64 x)) e9) zAd)))) (zAP rfl (by show Ob.bx _ _ [_,.buf 2 (othM all ly ord (k+1)).length,_,_]=_;rw[←zLJ hi hk4]) (zAo rfl rfl rfl (zAo rfl rfl (by rw[←zLJ hi hk4]) (zAo rfl rfl rfl (zAo rfl rfl rfl (zAP rfl rfl (zAo rfl rfl rfl zA7))))))) rfl (zIB ..)
   ·have hx4:(zAX all i).kind≠4:=hk4
    have hps:(zAX all i).size=(zAX all i).parts.length:=by unfold Thing.size Thing.need;rw[if_neg hk4];omega
    clear hnz
    skip
    repeat' first|apply en_n|apply zAK|apply zAA|apply zAF|apply w0|(apply zC9;exact rfl;exact rfl;first|assumption|omega)|exact zAN rfl|(apply zBY;exact rfl;exact rfl;exact rfl;(with_reducible exact zBS);omega;(rw[zAk];omega))|(apply zCg;exact rfl;(with_reducible exact zBQ);exact rfl;exact hld;exact rfl)|(refine zAh zEQ htold (zAa rfl zAR))|apply ay (hd:=rfl)|exact zAJ rfl|exact zAD rfl|(apply zBL;exact rfl;exact rfl)|exact zAm rfl rfl|(apply zA4;exact rfl;(with_reducible exact zCj))|exact zAH rfl|(apply zAC;exact rfl;(with_reducible exact zDo))|(apply zAG;exact rfl;(with_reducible exact zBC);exact rfl;exact rfl)|(apply zAL;exact rfl)|apply zAO
    all_goals first|omega|skip
    clear hld
    refine zBo (α:=Nat) (fun j=>j≤(zAX all i).parts.length) (fun j=>[(0,.ptr 0 0),(5,.p (rowP o size)),(6,.buf 6 roots.length),(9,.d (i64 (posN all ord k:Int))),(10,.d (i64 (zAX all i).kind)),(12,.d (i64 ((zAX all i).size:Int))),(13,.d (i64 ((posN all ord k:Int)+1+(j:Int))))]) (fun j=>HG fx o all ly size (addN ord ((zAX all i).parts.take j)) (othP all ly (addN ord ((zAX all i).parts.take j)) k j) (roots.map (wdN all ly)) (roots.map (wdN all ord))) (fun j=>(zAX all i).parts.length-j) 0 (Nat.zero_le _)
     (zAV (zAI rfl (zAI rfl (zAI rfl (zAI rfl (zAI rfl (zAI rfl (Le_d rfl (congrArg (fun x=>D.val (.int .i64 x)) (by omega)) zAd))))))) (zAP rfl (by show Ob.bx _ _ [_,.buf 2 (othP all ly ord k 0).length,_,_]=_;rw[←zUK hi hk4];rfl) (zAo rfl rfl rfl (zAo rfl rfl (by show w64s (othP all ly ord k 0)=_;rw[←zUK hi hk4]) (zAo rfl rfl rfl (zAo rfl rfl rfl (zAP rfl rfl (zAo rfl rfl rfl zA7))))))) rfl (zIB ..)) ?_
    intro j hj
    have hpre:ord <+: addN ord ((zAX all i).parts.take j):=zEi _ _
    have hkle:k≤ord.length:=Nat.le_of_lt hk
    have hi':(addN ord ((zAX all i).parts.take j))[k]?=some i:=by
     obtain⟨q,e⟩:=hpre
     rw[←e,List.getElem?_append_left hk];exact hi
    have hin:∀r∈(zAX all i).parts.take j,In (addN ord ((zAX all i).parts.take j)) r:=fun r h=>zKu ord _ h
    have hly:∀r∈(zAX all i).parts,In ly r:=fun r h q e=>hcl i (hM.sub i hil) q (by rw[←e];exact h)
    have hno:(addN ord ((zAX all i).parts.take j)).Nodup:=zDW _ _ hM.nodup
    have hsub:∀q∈addN ord ((zAX all i).parts.take j),q∈ly:=zIa hM.sub fun r h=>hly r (List.mem_of_mem_take h)
    have hcc:∀x∈(addN ord ((zAX all i).parts.take j)).take k,∀r∈(zAX all x).parts,In (addN ord ((zAX all i).parts.take j)) r:=fun x hx r hr=>by
     obtain⟨q,e⟩:=hpre
     rw[←e,List.take_append_of_le_length hkle]at hx
     exact(hM.closed x hx r hr).pre (zEi _ _)
    have hpo:posN all (addN ord ((zAX all i).parts.take j)) k=posN all ord k:=zKT hpre hkle
    have hXl:=zNU (all:=all) (ly:=ly) (j:=j) hi' hk4
    have hpp:posN all ord (k+1)≤sumN all (addN ord ((zAX all i).parts.take j)):=by
     have h1:sumN all ord≤sumN all (addN ord ((zAX all i).parts.take j)):=zE7 hM.nodup fun q hq=>hpre.subset hq
     omega
    have hsl:sumN all (addN ord ((zAX all i).parts.take j))≤sumN all ly:=zE7 hno hsub
    rcases Nat.lt_or_ge j (zAX all i).parts.length with hjl|hjl
    ·have hri:(zAX all i).parts[j]?=some (zAX all i).parts[j]:=List.getElem?_eq_getElem hjl
     have hmem:(zAX all i).parts[j]∈(zAX all i).parts:=List.getElem_mem hjl
     generalize (zAX all i).parts[j]=r at hri hmem
     have eo:=zL0 (l:=ord) hri
     have hmv:=zNZ hn hno hsub hXl hH hsz h20 r (hly r hmem)
     rw[zS1 hi' hcc hin r]at hmv
     have hi2:(addN (addN ord ((zAX all i).parts.take j)) [r])[k]?=some i:=by
      obtain⟨q,e⟩:=zIR (addN ord ((zAX all i).parts.take j)) r
      rw[←e,List.getElem?_append_left (Nat.lt_of_lt_of_le hk hpre.length_le)];exact hi'
     have hnx2:=zS0 (all:=all) (ly:=ly) hi2 hri
     have hpo2:posN all (addN (addN ord ((zAX all i).parts.take j)) [r]) k=posN all ord k:=(zKT (zIR _ r) (Nat.le_trans hkle hpre.length_le)).trans hpo
     have hXl2:=zNU (all:=all) (ly:=ly) (j:=j) hi2 hk4
     have hsl2:sumN all (addN ord ((zAX all i).parts.take j))≤sumN all (addN (addN ord ((zAX all i).parts.take j)) [r]):=zE7 hno fun q hq=>(zIR _ r).subset hq
     have hat:((posN all ord k:Int)+1+(j:Int)).toNat=posN all ord k+1+j:=by omega
     have hld:(w64s (othP all ly (addN ord ((zAX all i).parts.take j)) k j))[((posN all ord k:Int)+1+(j:Int)).toNat]?=some (w64 (wdN all ly r)):=by rw[hat,←hpo];exact zDS (zVm hi' hri)
     have hil:(posN all ord k:Int)+1+(j:Int)≤(posN all ord k:Int)+((zAX all i).size:Int):=by omega
     clear hnx htold
     skip
     repeat' first|apply en_n|apply zAK|apply zAA|apply zAF|apply w0|(apply zN7;exact rfl;exact rfl;first|assumption|omega)|(apply zGs;exact rfl;exact rfl;first|assumption|omega)|exact zAN rfl|exact zKt rfl|(apply zBY;exact rfl;exact rfl;exact rfl;(with_reducible exact zBS);omega;(rw[zAk];omega))|(apply zCg;exact rfl;(with_reducible exact zBQ);exact rfl;exact hld;exact rfl)|(refine zRR [0,1,2,3,5] 4 o zJy hmv rfl rfl ?_ (zOJ ..) rfl (by decide) rfl rfl (zL9 _ _ _ _ _ _ _ (_,_) (_,_) (_,_) _) rfl rfl rfl ?_;(repeat (refine zAB rfl ?_));exact zAE)|(refine zGH rfl rfl rfl zBQ rfl rfl ?_ rfl ?_)|apply ay (hd:=rfl)|exact zAJ rfl|exact zAD rfl|(apply zBL;exact rfl;exact rfl)|exact zAj rfl rfl|exact zAH rfl|(apply zAC;exact rfl;(with_reducible exact zDo))|(apply zAG;exact rfl;(with_reducible exact zBC);exact rfl;exact rfl)|(apply w1;exact rfl;exact rfl)|(refine w0' ?_)|(apply zAL;exact rfl)|apply zAO|apply zAU|apply eb_n
     all_goals first|omega|(rw[zAk];omega)|skip
     refine⟨j+1,by omega,by omega,?_⟩
     show Fits _ (HG fx o all ly size (addN ord ((zAX all i).parts.take (j+1))) (othP all ly (addN ord ((zAX all i).parts.take (j+1))) k (j+1)) (roots.map (wdN all ly)) (roots.map (wdN all ord))) _ _
     rw[eo,←hnx2,hpo2]
     exact zAV (zAI rfl (zAI rfl (zAI rfl (zAI rfl (zAI rfl (zAI rfl (Le_d rfl (congrArg (fun x=>D.val (.int .i64 x)) (by omega)) zAd))))))) (zAP rfl (by rw[List.length_set];rfl) (zAo rfl rfl rfl (zAo rfl rfl (by rw[←hat,←zHE]) (zAo rfl rfl rfl (zAo rfl rfl rfl (zAP rfl (congrArg (Ob.bx o _) (zSf (fun _=>rfl) _).symm) (zAo rfl rfl rfl zA7))))))) rfl (zIB ..)
    ·have hje:j=(zAX all i).parts.length:=by omega
     have hil:¬(posN all ord k:Int)+1+(j:Int)≤(posN all ord k:Int)+((zAX all i).size:Int):=by omega
     clear htold
     skip
     repeat' first|apply en_n|apply zAK|apply zAA|apply zAF|apply w0|(apply zL2;exact rfl;exact rfl;first|assumption|omega)|(apply zGs;exact rfl;exact rfl;first|assumption|omega)|apply ay (hd:=rfl)|exact zAJ rfl|exact zAD rfl|(apply zBL;exact rfl;exact rfl)|exact zAj rfl rfl|(apply w1;exact rfl;exact rfl)|(apply zAM;exact rfl)|apply zBu|apply zN3|apply en_e|apply eb_e|apply en_g|apply ej_g
     all_goals first|omega|skip
     refine⟨(o,k+1,addN ord (zAX all i).parts),hnx,?_,?_⟩
     ·show all.length+1-(k+1)<all.length+1-k
      have:=zHV hM.nodup fun j hj=>hlt j (hM.sub j hj)
      omega
     ·have ho4:=zS2 (all:=all) (ly:=ly) hi' hk4
      subst hje
      rw[List.take_length]at ho4 hpre hin
      have e10:posN all (addN ord (zAX all i).parts) (k+1)=posN all ord (k+1):=zKT hpre hk
      have em:roots.map (wdN all (addN ord (zAX all i).parts))=roots.map (wdN all ord):=zKb hpre hM.rt
      show Fits [_,_,_,(9,.d (i64 (posN all (addN ord (zAX all i).parts) (k+1):Int)))] (HG fx o all ly size (addN ord (zAX all i).parts) (othM all ly (addN ord (zAX all i).parts) (k+1)) (roots.map (wdN all ly)) (roots.map (wdN all (addN ord (zAX all i).parts)))) _ _
      rw[em,←ho4,List.take_length,e10]
      exact zAV (zAI rfl (zAI rfl (zAI rfl (Le_d rfl (congrArg (fun x=>D.val (.int .i64 x)) e9) zAd)))) (zAP rfl rfl (zAo rfl rfl rfl (zAo rfl rfl rfl (zAo rfl rfl rfl (zAo rfl rfl rfl (zAP rfl rfl (zAo rfl rfl rfl zA7))))))) rfl (zIB ..)
  ·obtain⟨hnd,hke⟩:=hM.fin hk
   rw[hnd]
   have hbo:(begL all ord size).length=size:=zJO all ord (by omega)
   have hoe:othM all ly ord k=zBj all ord:=by rw[hke,zS4]
   rw[hoe]at hol ⊢
   refine zRE 5 5 size rfl rfl (by rw[zFv,hbo]) (by show size≤maxLen;simp only[maxLen];omega) (fun d hd=>by obtain⟨x,_,rfl⟩:=List.mem_map.1 hd;rfl) rfl ?_
   refine zDQ (s:=[(0,.ptr 0 0),(5,.buf 5 size),(6,.buf 6 roots.length),(9,.d (i64 (posN all ord k:Int)))]) (h:=[.bx (fx 0) none [.buf 1 (nowM all ly ord).length,.buf 2 (zBj all ord).length,.d (i64 (size:Int)),.buf 3 (begL all ly size).length],.buf true 58 1 (w64s (nowM all ly ord)),.buf true 58 1 (w64s (zBj all ord)),.buf true 4 1 (bls (begL all ly size)),.buf true 58 1 (w64s (roots.map (wdN all ly))),.buf true 4 1 (bls (begL all ord size)),.buf true 58 1 (w64s (roots.map (wdN all ord)))]) ?_ ?_
   ·exact zAV (zAI rfl (zAI rfl (zAI rfl (zAI rfl zAd)))) (zAP rfl rfl (zAo rfl rfl rfl (zAo rfl rfl rfl (zAo rfl rfl rfl (zAo rfl rfl rfl (zAo rfl rfl rfl (zAo rfl rfl rfl zA7))))))) rfl rfl
   refine zHd 1 2 rfl rfl rfl rfl ?_
   refine zDQ (s:=[(0,.ptr 0 0),(5,.buf 5 size),(6,.buf 6 roots.length),(9,.d (i64 (posN all ord k:Int)))]) (h:=[.bx (fx 0) none [.buf 2 (nowM all ly ord).length,.buf 1 (zBj all ord).length,.d (i64 (size:Int)),.buf 3 (begL all ly size).length],.buf true 58 1 (w64s (zBj all ord)),.buf true 58 1 (w64s (nowM all ly ord)),.buf true 4 1 (bls (begL all ly size)),.buf true 58 1 (w64s (roots.map (wdN all ly))),.buf true 4 1 (bls (begL all ord size)),.buf true 58 1 (w64s (roots.map (wdN all ord)))]) ?_ ?_
   ·exact zAV (zAI rfl (zAI rfl (zAI rfl (zAI rfl zAd)))) (zAP rfl rfl (zAo rfl rfl rfl (zAo rfl rfl rfl (zAo rfl rfl rfl (zAo rfl rfl rfl (zAo rfl rfl rfl (zAo rfl rfl rfl zA7))))))) rfl rfl
   refine zHd 3 5 rfl rfl rfl rfl ?_
   refine zDQ (s:=[(0,.ptr 0 0),(5,.buf 3 size),(6,.buf 6 roots.length),(9,.d (i64 (posN all ord k:Int)))]) (h:=[.bx (fx 0) none [.buf 2 (nowM all ly ord).length,.buf 1 (zBj all ord).length,.d (i64 (size:Int)),.buf 5 (begL all ly size).length],.buf true 58 1 (w64s (zBj all ord)),.buf true 58 1 (w64s (nowM all ly ord)),.buf true 4 1 (bls (begL all ord size)),.buf true 58 1 (w64s (roots.map (wdN all ly))),.gone,.buf true 58 1 (w64s (roots.map (wdN all ord)))]) ?_ ?_
   ·exact zAV (zAI rfl (zAI rfl (zAI rfl (zAI rfl zAd)))) (zAP rfl rfl (zAo rfl rfl rfl (zAo rfl rfl rfl (zAo rfl rfl rfl (zAo rfl rfl rfl (zHh rfl (zAo rfl rfl rfl zA7))))))) rfl rfl
   have hlt1:¬(posN all ord k:Int)<((zBj all ord).length:Int):=by
    have:=zMU (all:=all) (ord:=ord) (k:=k)
    omega
   skip
   repeat' first|(refine zLu [.ptr 0 0,.ptr 0 0,.ptr 0 0,.ptr 0 0,.ptr 0 0,.ptr 0 (0+1),.buf 1 (zBj all ord).length,.ptr 0 0,.ptr 0 0,.ptr 0 (0+0),.buf 2 (nowM all ly ord).length,.buf 3 size,.ptr 0 0,.ptr 0 (0+0),.top,.ptr 0 0,.ptr 0 (0+1),.top,.ptr 0 0,.ptr 0 (0+3),.top] [14,17,20] [[.bx (fx 0) none [.buf 2 (nowM all ly ord).length,.buf 1 (zBj all ord).length,.d (i64 (size:Int)),.buf 5 (begL all ly size).length],.buf true 58 1 (w64s (zBj all ord)),.buf true 58 1 (w64s (nowM all ly ord)),.buf true 4 1 (bls (begL all ord size)),.buf true 58 1 (w64s (roots.map (wdN all ly))),.gone,.buf true 58 1 (w64s (roots.map (wdN all ord)))],[.bx (fx 0) none [.buf 1 (zBj all ord).length,.buf 1 (zBj all ord).length,.d (i64 (size:Int)),.buf 5 (begL all ly size).length],.buf true 58 1 (w64s (zBj all ord)),.buf true 58 1 (w64s (nowM all ly ord)),.buf true 4 1 (bls (begL all ord size)),.buf true 58 1 (w64s (roots.map (wdN all ly))),.gone,.buf true 58 1 (w64s (roots.map (wdN all ord)))],[.bx (fx 0) none [.buf 1 (zBj all ord).length,.buf 2 (nowM all ly ord).length,.d (i64 (size:Int)),.buf 5 (begL all ly size).length],.buf true 58 1 (w64s (zBj all ord)),.buf true 58 1 (w64s (nowM all ly ord)),.buf true 4 1 (bls (begL all ord size)),.buf true 58 1 (w64s (roots.map (wdN all ly))),.gone,.buf true 58 1 (w64s (roots.map (wdN all ord)))],[.bx (fx 0) none [.buf 1 (zBj all ord).length,.buf 2 (nowM all ly ord).length,.d (i64 (size:Int)),.buf 3 size],.buf true 58 1 (w64s (zBj all ord)),.buf true 58 1 (w64s (nowM all ly ord)),.buf true 4 1 (bls (begL all ord size)),.buf true 58 1 (w64s (roots.map (wdN all ly))),.gone,.buf true 58 1 (w64s (roots.map (wdN all ord)))]] (by kernel_rfl) (by kernel_rfl) rfl (.inl rfl) rfl (by kernel_rfl) rfl rfl ?_ ?_)|apply en_n|apply zAK|apply zAA|apply zAF|apply w0|exact zND|(refine zFj rfl rfl rfl (fun η=>zAH rfl) ?_)|(refine zFj rfl rfl rfl (fun η=>zBR rfl) ?_)|(refine zFj rfl rfl rfl (fun η=>zAN rfl) ?_)|(refine zFj rfl rfl rfl (fun η=>zAC rfl (by first|with_reducible exact zCo|with_reducible exact zDo|with_reducible exact zGS)) ?_)|(refine zKN 0 0 rfl rfl rfl (by kernel_rfl) (by kernel_rfl) (zE4 (zAG rfl (by with_reducible exact zBC) rfl rfl) zId) ?_)|(refine zJq _ rfl rfl rfl rfl (by first|with_reducible exact zBC|with_reducible exact zII) rfl rfl rfl rfl rfl rfl ?_)|(apply zCk;exact rfl;exact rfl;first|assumption|omega)|exact zAN rfl|apply ay (hd:=rfl)|exact zAJ rfl|exact zBR rfl|exact zAz rfl|(apply zA4;exact rfl;(with_reducible exact zCj))|exact zAH rfl|(apply zAC;exact rfl;(with_reducible exact zDo))|(apply zAG;exact rfl;(with_reducible exact zBC);exact rfl;exact rfl)|(apply zAM;exact rfl)|apply zAU|apply zAT|apply ej_r
   all_goals first|omega|skip
   exact zC8 (zAV (zAI rfl zAd) (zAP rfl (by show Ob.bx _ _ [_,_,_,.buf 3 (begL all ord size).length]=_;rw[hbo]) (zAo rfl rfl rfl (zAo rfl rfl rfl (zAo rfl rfl rfl (zAo rfl rfl rfl (zHh rfl (zAo rfl rfl rfl zA7))))))) rfl rfl)
end Go.Proofs.YtcagoomibpcdlaaGreatDoor
