import Derived.Test.YtcagoomibpcdlaaGreatDoorMAH
set_option maxHeartbeats 16000000
namespace Go.Proofs.YtcagoomibpcdlaaGreatDoor
open _root_.Go.Proofs.Tryz
open Go.Sx Go.Vm
abbrev HG(fx:Nat->Option Nat)(o:Option Nat)(all:List Thing)(ly:List Nat)(size:Nat)(ord X st out:List Nat): List Ob :=
 [.bx (fx 0) none [.buf 1 (nowM all ly ord).length,.buf 2 X.length,.d (i64 (size:Int)),.buf 3 (begL all ly size).length],.buf true 58 1 (w64s (nowM all ly ord)),.buf true 58 1 (w64s X),.buf true 4 1 (bls (begL all ly size)),.buf true 58 1 (w64s st),.bx o (some 4) ((bls (begL all ord size)).map .d),.buf true 58 1 (w64s out)]
theorem ze7(all:List Thing)(size:Nat): (bls (begL all [] size)).map SV.d=List.replicate size (.d (bl false)):=by
 simp[bls,begL,sumN,List.map_replicate]
theorem zKG(fx:Nat->Option Nat)(o:Option Nat)(all:List Thing)(ly:List Nat)(size:Nat)(ord X st out:List Nat): (HG fx o all ly size ord X st out).all (Ob.below 7)=true:=by
 simp only[List.all_cons,List.all_nil,Ob.below,zLE];rfl
theorem zRu(fx:Nat->Option Nat)(o:Option Nat)(all:List Thing)(ly:List Nat)(size:Nat)(ord X st out:List Nat): Picks (HG fx o all ly size ord X st out) [0,1,2,3,5] (HC all ly size ord X):=by
 show _=[_,_,_,_,some (Ob.ren _ (Ob.bx _ _ ((bls (begL all ord size)).map SV.d)))]
 rw[zaL];rfl
theorem zZg(l:List Nat)(n:Nat)(h:l.length=n): (w64s l).take (List.replicate n (w64 0)).length++(List.replicate n (w64 0)).drop (w64s l).length=w64s l:=by
 rw[qAp,qAe (by rw[zAq];omega),List.drop_eq_nil_of_le (by rw[qAp,zAq];omega),qBC]
theorem zEj: (zA3 prog 56).isSome=true:=by rw[zBk];rfl
theorem zd_w: zKH prog 58=some (w64 0):=by kernel_rfl
theorem zd_b: zKH prog 4=some (bl false):=by kernel_rfl
attribute [local irreducible] zAL Program.underlying Ylds zA2 alex zBZ zBP awp zAb zBh zBg zAW zBF zAp zBG zBR zAr zBV zBY zBe zBM zA8 zBE
theorem zS8{all:List Thing}{ly:List Nat}{size:Nat}(oth:List Nat)(roots:List Rf)(hn:ly.Nodup)(hlt:∀i∈ly,i<all.length)(hcl:Closed all ly)(hH:∀i∈ly,HeadOk (zAc all i)/\1<=(zAc all i).kind)(h4:∀i∈ly,(zAc all i).kind=4->(zAc all i).parts=[])(hsz:sumN all ly<=size)(h20:size<=1048576)(hr:∀r∈roots,In ly r)(hrl:roots.length<=1048576):
  zAW prog 130 [.ptr 0 0,.buf 4 roots.length] (HO (size:Int) (zCG all ly) oth (begL all ly size)++[Ob.buf true 58 1 (w64s (roots.map (wdN all ly)))]) (.buf 6 roots.length) (HO (size:Int) (zCG all (zDd all roots)) (nowM all ly (zDd all roots)) (begL all (zDd all roots) size)++[Ob.buf true 58 1 (w64s (roots.map (wdN all ly))),Ob.gone,Ob.buf true 58 1 (w64s (roots.map (wdN all (zDd all roots))))]):=by
 have hb4:=zLp all ly hsz
 refine zEh func130 rfl ntmps130 results130 rfl rfl rfl ?_
 intro wb St0 X fx
 repeat' first|apply en_n|apply zAE|apply zAA|apply zAB|apply w0|refine ayA rfl ?_
 refine zQD (α:=Option Nat×Nat×List Nat) [_,_,_,_,_,_] 0 rfl rfl (fun y=>Mv all ly roots y.2.1 y.2.2) (fun y=>[(0,.ptr 0 0),(5,.p (rowP y.1 size)),(6,.buf 6 roots.length),(9,.d (i64 (posN all y.2.2 y.2.1:Int)))]) (fun y=>HG fx y.1 all ly size y.2.2 (othM all ly y.2.2 y.2.1) (roots.map (wdN all ly)) (roots.map (wdN all y.2.2))) (fun y=>all.length+1-y.2.1) ?_ ?_
 ·skip
  repeat' first|apply en_n|apply zAE|apply zAA|apply zAB|apply w0|(refine aw_c ?_)|exact zS5 rfl|(apply zHH (m:=oth.length) (n:=0) (k:=.i64);exact rfl;(with_reducible exact zEj);exact rfl;omega;exact⟨_,_,_,w64s oth,rfl,qA2 (zAq _).symm⟩)|(refine zYX rfl rfl (by with_reducible exact zNq) (by with_reducible exact zII) (by with_reducible exact zd_b) rfl (by with_reducible exact zQV) rfl rfl (by omega) ?_;intro o)|(apply zVo;exact rfl;exact rfl;(with_reducible exact zCh);(with_reducible exact zBk);(with_reducible exact zd_w);exact rfl;exact rfl;(with_reducible exact zEm);exact rfl;exact rfl;omega)|(refine zZG (sz:=1) (ys:=w64s (roots.map (wdN all ly))) rfl rfl (by rw[qAp]) rfl rfl (by rw[zAq,qAC,qAY];exact qAP _) (by rw[List.drop_zero,qAe (by rw[zAq,qAC];exact qAP _)]) (by with_reducible exact zBk) (zIp _) rfl rfl ?_)|refine ayA rfl ?_|apply ay (hd:=rfl)|(refine w0' ?_)|refine aStA ?_|apply zAO
  refine zbk 2 0 rfl ?_
  refine zBA (α:=Nat) (fun i=>i<=roots.length) (fun i=>[(0,.ptr 0 0),(5,.p (rowP o size)),(6,.buf 6 roots.length),(34,.buf 6 roots.length),(35,.d (i64 (roots.length:Int))),(36,.d (i64 (i:Int)))]) (fun i=>HG fx o all ly size (addN [] (roots.take i)) (othM all ly (addN [] (roots.take i)) 0) (roots.map (wdN all ly)) (zJK all ly (addN [] (roots.take i)) roots i)) (fun i=>roots.length-i) 0 (qAQ _)
   (zAU (Le_all rfl) ?_ rfl ?_) ?_
  ·exact zAK rfl (by rw[show addN [] (roots.take 0)=[]from rfl,zQ2];rfl) (zAs rfl rfl (by rw[show addN [] (roots.take 0)=[]from rfl,zQ2]) (zAs rfl rfl rfl (zAs rfl rfl rfl (zAs rfl rfl rfl (zAK rfl (congrArg (Ob.bx o _) (ze7 all size)) (zAs rfl rfl (by rw[zaM];exact(zZg _ _ (by rw[qAC];rfl)).symm) zAe))))))
  ·exact zKG ..
  intro i hi
  rcases qAR i roots.length with hlt'|hge
  ·have hri:roots[i]?=some roots[i]:=qAB hlt'
   have hmem:roots[i]∈roots:=qA8 hlt'
   generalize roots[i]=r at hri hmem
   have eo:=addN_take (l:=[]) hri
   have hno:(addN [] (roots.take i)).Nodup:=zEO _ [] (by simp)
   have hsub:∀j∈addN [] (roots.take i),j∈ly:=zKg (by simp) fun r h=>hr r (qAW h)
   have hin:∀x∈roots.take i,In (addN [] (roots.take i)) x:=fun x h=>zNj [] _ h
   have hmv:=zQ4 hn hno hsub (zNA all ly (addN [] (roots.take i)) 0) hH hsz h20 r (hr r hmem)
   rw[zUZ (qAQ _) (by simp)]at hmv
   have hnx:=zSE (all:=all) (ly:=ly) hri hin
   have hld:(w64s (zJK all ly (addN [] (roots.take i)) roots i))[((i:Nat):Int).toNat]?=some (w64 (wdN all ly r)):=by rw[qAn];exact zEI (zW7 hri)
   have hil:(i:Int)<(roots.length:Int):=by omega
   have hol:=zTz all ly (addN [] (roots.take i)) roots i
   skip
   repeat' first|apply en_n|apply zAE|apply zAA|apply zAB|apply w0|exact zNf rfl|(apply zBQ;exact rfl;exact rfl;exact rfl;(with_reducible exact zBk);omega;(rw[zAq];omega))|exact zCT rfl zBj rfl hld rfl|(refine zVp [0,1,2,3,5] 4 o zMV hmv rfl rfl (SArgs_all rfl) (zRu ..) rfl (by decide) rfl rfl (zPP _ _ _ _ _ _ _ (_,_) (_,_) (_,_) _) rfl rfl rfl ?_)|(refine zH6 rfl rfl rfl zBj rfl rfl ?_ rfl ?_)|refine ayA rfl ?_|refine ayQ rfl ?_|apply ay (hd:=rfl)|refine zBp rfl rfl ?_|(refine w0' ?_)|refine zAJ rfl ?_|apply zAO|apply zAP|apply eb_n
   all_goals first|omega|(rw[zAq];omega)|skip
   refine⟨i+1,by omega,by omega,?_⟩
   show Fits _ (HG fx o all ly size (addN [] (roots.take (i+1))) (othM all ly (addN [] (roots.take (i+1))) 0) (roots.map (wdN all ly)) (zJK all ly (addN [] (roots.take (i+1))) roots (i+1))) _ _
   rw[eo]
   exact zAU (Le_all rfl) (zAK rfl rfl (zAs rfl rfl rfl (zAs rfl rfl rfl (zAs rfl rfl rfl (zAs rfl rfl rfl (zAK rfl (congrArg (Ob.bx o _) (zW6 (fun _=>rfl) _).symm) (zAs rfl rfl (by rw[<-hnx,<-zJA];rfl) zAe))))))) rfl (zKG ..)
  ·have hil:¬(i:Int)<(roots.length:Int):=by omega
   have e:i=roots.length:=by omega
   subst e
   skip
   repeat' first|apply en_n|apply zAE|apply zAA|apply zAB|apply w0|(refine aw_c ?_)|refine ayA rfl ?_|refine ayQ rfl ?_|refine zAI rfl ?_|apply zBH|apply en_e|apply eb_e
   refine zdj ⟨(o,0,addN [] roots),Mv.start hr,?_⟩
   rw[qAw,zT0]
   exact zAU (Le_all rfl) (zAK rfl rfl (zAs rfl rfl rfl (zAs rfl rfl rfl (zAs rfl rfl rfl (zAs rfl rfl rfl (zAK rfl rfl (zAs rfl rfl rfl zAe))))))) rfl (zKG ..)
 ·rintro⟨o,k,ord⟩ hM
  have hM:Mv all ly roots k ord:=hM
  show awp _ _ _ [(0,.ptr 0 0),(5,.p (rowP o size)),(6,.buf 6 roots.length),(9,.d (i64 (posN all ord k:Int)))] (HG fx o all ly size ord (othM all ly ord k) (roots.map (wdN all ly)) (roots.map (wdN all ord)))
  have hso:sumN all ord<=sumN all ly:=zGd hM.nodup hM.sub
  have hol:=zNA all ly ord k
  rcases qAR k ord.length with hk|hk
  ·have hi:ord[k]?=some ord[k]:=qAB hk
   have hil:ord[k]∈ord:=qA8 hk
   generalize ord[k]=i at hi hil
   have hpl:posN all ord k<sumN all ord:=zPn.2 hk
   have hpn:=zUK (all:=all) hi
   have hpe:posN all ord (k+1)<=sumN all ord:=by
    rcases qAR (k+1) ord.length with h|h
    ·exact Nat.le_of_lt (zPn.2 h)
    ·unfold posN;rw[qAe h];exact qAP _
   obtain⟨hhd,hkd⟩:=hH i (hM.sub i hil)
   have htold:=zPb _ hhd
   have hnz:=zD7 (zAc all i)
   have hld:(w64s (othM all ly ord k))[((posN all ord k:Nat):Int).toNat]?=some (w64 (zDM (zAc all i))):=by rw[qAn];exact zEI (zUa hi)
   have hlt1:(posN all ord k:Int)<((othM all ly ord k).length:Int):=by omega
   have hnx:=hM.next hlt hcl hi
   have e9:((posN all ord (k+1):Nat):Int)=(posN all ord k:Int)+(1+((zAc all i).size:Int)):=by omega
   by_cases hk4:(zAc all i).kind=4
   ·have hp0:=h4 i (hM.sub i hil) hk4
    have hx4:¬(zAc all i).kind≠4:=fun c=>c hk4
    skip
    repeat' first|apply en_n|apply zAE|apply zAA|apply zAB|apply w0|(apply zBQ;exact rfl;exact rfl;exact rfl;(with_reducible exact zBk);omega;(rw[zAq];omega))|exact zCT rfl zBj rfl hld rfl|exact ycA zFb htold|refine ayA rfl ?_|refine ayQ rfl ?_|apply ay (hd:=rfl)|refine zBp rfl rfl ?_|refine zAJ rfl ?_|apply zAO
    all_goals first|omega|skip
    refine zBA (α:=Unit) (fun _=>True) (fun _=>[(0,.ptr 0 0),(5,.p (rowP o size)),(6,.buf 6 roots.length),(9,.d (i64 (posN all ord k:Int))),(10,.d (i64 (zAc all i).kind)),(12,.d (i64 ((zAc all i).size:Int)))]) (fun _=>HG fx o all ly size ord (othM all ly ord k) (roots.map (wdN all ly)) (roots.map (wdN all ord))) (fun _=>0) () trivial
     (zAU (Le_all rfl) (zAK rfl rfl (zAs rfl rfl rfl (zAs rfl rfl rfl (zAs rfl rfl rfl (zAs rfl rfl rfl (zAK rfl rfl (zAs rfl rfl rfl zAe))))))) rfl (zKG ..)) ?_
    intro _ _
    clear hlt1
    skip
    repeat' first|apply en_n|apply zAE|apply zAA|apply zAB|apply w0|refine k1u (hd:=rfl) rfl rfl ?_|refine ayA rfl ?_|refine ayQ rfl ?_|apply ay (hd:=rfl)|refine zBp rfl rfl ?_|refine zAI rfl ?_|apply zBH|apply zRe|apply en_e|apply eb_e|apply en_g|apply ej_g
    all_goals first|omega|skip
    refine⟨(o,k+1,ord),?_,?_,?_⟩
    ·rw[hp0]at hnx;exact hnx
    ·show all.length+1-(k+1)<all.length+1-k
     have:=nodup_len hM.nodup fun j hj=>hlt j (hM.sub j hj)
     omega
    ·exact zAU (Le_cons rfl (Le_cons rfl (Le_cons rfl (Le_d rfl (congrArg (fun x=>D.val (.int .i64 x)) e9) Le_nil)))) (zAK rfl (by show Ob.bx _ _ [_,.buf 2 (othM all ly ord (k+1)).length,_,_]=_;rw[<-zOQ hi hk4]) (zAs rfl rfl rfl (zAs rfl rfl (by rw[<-zOQ hi hk4]) (zAs rfl rfl rfl (zAs rfl rfl rfl (zAK rfl rfl (zAs rfl rfl rfl zAe))))))) rfl (zKG ..)
   ·have hx4:(zAc all i).kind≠4:=hk4
    have hps:(zAc all i).size=(zAc all i).parts.length:=by unfold Thing.size Thing.need;rw[if_neg hk4];omega
    clear hnz
    skip
    repeat' first|apply en_n|apply zAE|apply zAA|apply zAB|apply w0|(apply zBQ;exact rfl;exact rfl;exact rfl;(with_reducible exact zBk);omega;(rw[zAq];omega))|exact zCT rfl zBj rfl hld rfl|exact ycA zFb htold|refine ayA rfl ?_|refine ayQ rfl ?_|apply ay (hd:=rfl)|refine zBp rfl rfl ?_|refine zAJ rfl ?_|apply zAO
    all_goals first|omega|skip
    clear hld
    refine zBA (α:=Nat) (fun j=>j<=(zAc all i).parts.length) (fun j=>[(0,.ptr 0 0),(5,.p (rowP o size)),(6,.buf 6 roots.length),(9,.d (i64 (posN all ord k:Int))),(10,.d (i64 (zAc all i).kind)),(12,.d (i64 ((zAc all i).size:Int))),(13,.d (i64 ((posN all ord k:Int)+1+(j:Int))))]) (fun j=>HG fx o all ly size (addN ord ((zAc all i).parts.take j)) (othP all ly (addN ord ((zAc all i).parts.take j)) k j) (roots.map (wdN all ly)) (roots.map (wdN all ord))) (fun j=>(zAc all i).parts.length-j) 0 (qAQ _)
     (zAU (Le_cons rfl (Le_cons rfl (Le_cons rfl (Le_cons rfl (Le_cons rfl (Le_cons rfl (Le_d rfl (congrArg (fun x=>D.val (.int .i64 x)) (by omega)) Le_nil))))))) (zAK rfl (by show Ob.bx _ _ [_,.buf 2 (othP all ly ord k 0).length,_,_]=_;rw[<-zYu hi hk4];rfl) (zAs rfl rfl rfl (zAs rfl rfl (by show w64s (othP all ly ord k 0)=_;rw[<-zYu hi hk4]) (zAs rfl rfl rfl (zAs rfl rfl rfl (zAK rfl rfl (zAs rfl rfl rfl zAe))))))) rfl (zKG ..)) ?_
    intro j hj
    have hpre:ord <+: addN ord ((zAc all i).parts.take j):=zF2 _ _
    have hkle:k<=ord.length:=Nat.le_of_lt hk
    have hi':(addN ord ((zAc all i).parts.take j))[k]?=some i:=by
     obtain⟨q,e⟩:=hpre
     rw[<-e,qAI hk];exact hi
    have hin:∀r∈(zAc all i).parts.take j,In (addN ord ((zAc all i).parts.take j)) r:=fun r h=>zNj ord _ h
    have hly:∀r∈(zAc all i).parts,In ly r:=fun r h q e=>hcl i (hM.sub i hil) q (by rw[<-e];exact h)
    have hno:(addN ord ((zAc all i).parts.take j)).Nodup:=zEO _ _ hM.nodup
    have hsub:∀q∈addN ord ((zAc all i).parts.take j),q∈ly:=zKg hM.sub fun r h=>hly r (qAW h)
    have hcc:∀x∈(addN ord ((zAc all i).parts.take j)).take k,∀r∈(zAc all x).parts,In (addN ord ((zAc all i).parts.take j)) r:=fun x hx r hr=>by
     obtain⟨q,e⟩:=hpre
     rw[<-e,qBJ hkle]at hx
     exact(hM.closed x hx r hr).pre (zF2 _ _)
    have hpo:posN all (addN ord ((zAc all i).parts.take j)) k=posN all ord k:=zM5 hpre hkle
    have hXl:=zQy (all:=all) (ly:=ly) (j:=j) hi' hk4
    have hpp:posN all ord (k+1)<=sumN all (addN ord ((zAc all i).parts.take j)):=by
     have h1:sumN all ord<=sumN all (addN ord ((zAc all i).parts.take j)):=zGd hM.nodup fun q hq=>hpre.subset hq
     omega
    have hsl:sumN all (addN ord ((zAc all i).parts.take j))<=sumN all ly:=zGd hno hsub
    rcases qAR j (zAc all i).parts.length with hjl|hjl
    ·have hri:(zAc all i).parts[j]?=some (zAc all i).parts[j]:=qAB hjl
     have hmem:(zAc all i).parts[j]∈(zAc all i).parts:=qA8 hjl
     generalize (zAc all i).parts[j]=r at hri hmem
     have eo:=addN_take (l:=ord) hri
     have hmv:=zQ4 hn hno hsub hXl hH hsz h20 r (hly r hmem)
     rw[zXT hi' hcc hin r]at hmv
     have hi2:(addN (addN ord ((zAc all i).parts.take j)) [r])[k]?=some i:=by
      obtain⟨q,e⟩:=zKV (addN ord ((zAc all i).parts.take j)) r
      rw[<-e,qAI (qAa hk hpre.length_le)];exact hi'
     have hnx2:=zXS (all:=all) (ly:=ly) hi2 hri
     have hpo2:posN all (addN (addN ord ((zAc all i).parts.take j)) [r]) k=posN all ord k:=(zM5 (zKV _ r) (qAu hkle hpre.length_le)).trans hpo
     have hXl2:=zQy (all:=all) (ly:=ly) (j:=j) hi2 hk4
     have hsl2:sumN all (addN ord ((zAc all i).parts.take j))<=sumN all (addN (addN ord ((zAc all i).parts.take j)) [r]):=zGd hno fun q hq=>(zKV _ r).subset hq
     have hat:((posN all ord k:Int)+1+(j:Int)).toNat=posN all ord k+1+j:=by omega
     have hld:(w64s (othP all ly (addN ord ((zAc all i).parts.take j)) k j))[((posN all ord k:Int)+1+(j:Int)).toNat]?=some (w64 (wdN all ly r)):=by rw[hat,<-hpo];exact zEI (zam hi' hri)
     have hil:(posN all ord k:Int)+1+(j:Int)<=(posN all ord k:Int)+((zAc all i).size:Int):=by omega
     clear hnx htold
     skip
     repeat' first|apply en_n|apply zAE|apply zAA|apply zAB|apply w0|exact zNf rfl|(apply zBQ;exact rfl;exact rfl;exact rfl;(with_reducible exact zBk);omega;(rw[zAq];omega))|exact zCT rfl zBj rfl hld rfl|(refine zVp [0,1,2,3,5] 4 o zMV hmv rfl rfl (SArgs_all rfl) (zRu ..) rfl (by decide) rfl rfl (zPP _ _ _ _ _ _ _ (_,_) (_,_) (_,_) _) rfl rfl rfl ?_)|(refine zH6 rfl rfl rfl zBj rfl rfl ?_ rfl ?_)|refine ayA rfl ?_|refine ayQ rfl ?_|apply ay (hd:=rfl)|refine zBp rfl rfl ?_|refine w1 rfl rfl ?_|(refine w0' ?_)|refine zAJ rfl ?_|apply zAO|apply zAP|apply eb_n
     all_goals first|omega|(rw[zAq];omega)|skip
     refine⟨j+1,by omega,by omega,?_⟩
     show Fits _ (HG fx o all ly size (addN ord ((zAc all i).parts.take (j+1))) (othP all ly (addN ord ((zAc all i).parts.take (j+1))) k (j+1)) (roots.map (wdN all ly)) (roots.map (wdN all ord))) _ _
     rw[eo,<-hnx2,hpo2]
     exact zAU (Le_cons rfl (Le_cons rfl (Le_cons rfl (Le_cons rfl (Le_cons rfl (Le_cons rfl (Le_d rfl (congrArg (fun x=>D.val (.int .i64 x)) (by omega)) Le_nil))))))) (zAK rfl (by rw[qAZ];rfl) (zAs rfl rfl rfl (zAs rfl rfl (by rw[<-hat,<-zJA]) (zAs rfl rfl rfl (zAs rfl rfl rfl (zAK rfl (congrArg (Ob.bx o _) (zW6 (fun _=>rfl) _).symm) (zAs rfl rfl rfl zAe))))))) rfl (zKG ..)
    ·have hje:j=(zAc all i).parts.length:=by omega
     have hil:¬(posN all ord k:Int)+1+(j:Int)<=(posN all ord k:Int)+((zAc all i).size:Int):=by omega
     clear htold
     skip
     repeat' first|apply en_n|apply zAE|apply zAA|apply zAB|apply w0|refine ayA rfl ?_|refine ayQ rfl ?_|apply ay (hd:=rfl)|refine zBp rfl rfl ?_|refine w1 rfl rfl ?_|refine zAI rfl ?_|apply zBH|apply zRe|apply en_e|apply eb_e|apply en_g|apply ej_g
     all_goals first|omega|skip
     refine⟨(o,k+1,addN ord (zAc all i).parts),hnx,?_,?_⟩
     ·show all.length+1-(k+1)<all.length+1-k
      have:=nodup_len hM.nodup fun j hj=>hlt j (hM.sub j hj)
      omega
     ·have ho4:=zXU (all:=all) (ly:=ly) hi' hk4
      subst hje
      rw[qAw]at ho4 hpre hin
      have e10:posN all (addN ord (zAc all i).parts) (k+1)=posN all ord (k+1):=zM5 hpre hk
      have em:roots.map (wdN all (addN ord (zAc all i).parts))=roots.map (wdN all ord):=zNE hpre hM.rt
      show Fits [_,_,_,(9,.d (i64 (posN all (addN ord (zAc all i).parts) (k+1):Int)))] (HG fx o all ly size (addN ord (zAc all i).parts) (othM all ly (addN ord (zAc all i).parts) (k+1)) (roots.map (wdN all ly)) (roots.map (wdN all (addN ord (zAc all i).parts)))) _ _
      rw[em,<-ho4,qAw,e10]
      exact zAU (Le_cons rfl (Le_cons rfl (Le_cons rfl (Le_d rfl (congrArg (fun x=>D.val (.int .i64 x)) e9) Le_nil)))) (zAK rfl rfl (zAs rfl rfl rfl (zAs rfl rfl rfl (zAs rfl rfl rfl (zAs rfl rfl rfl (zAK rfl rfl (zAs rfl rfl rfl zAe))))))) rfl (zKG ..)
  ·obtain⟨hnd,hke⟩:=hM.fin hk
   rw[hnd]
   have hbo:(begL all ord size).length=size:=zLp all ord (by omega)
   have hoe:othM all ly ord k=zCG all ord:=by rw[hke,zXW]
   rw[hoe]at hol ⊢
   refine zVb 5 5 size rfl rfl (by rw[zHd,hbo]) (by show size<=maxLen;simp only[maxLen];omega) (fun d hd=>by obtain⟨x,_,rfl⟩:=qA5.1 hd;rfl) rfl ?_
   refine zBW (s:=[(0,.ptr 0 0),(5,.buf 5 size),(6,.buf 6 roots.length),(9,.d (i64 (posN all ord k:Int)))]) (h:=[.bx (fx 0) none [.buf 1 (nowM all ly ord).length,.buf 2 (zCG all ord).length,.d (i64 (size:Int)),.buf 3 (begL all ly size).length],.buf true 58 1 (w64s (nowM all ly ord)),.buf true 58 1 (w64s (zCG all ord)),.buf true 4 1 (bls (begL all ly size)),.buf true 58 1 (w64s (roots.map (wdN all ly))),.buf true 4 1 (bls (begL all ord size)),.buf true 58 1 (w64s (roots.map (wdN all ord)))]) ?_ ?_
   ·exact zAU (Le_all rfl) (zAK rfl rfl (zAs rfl rfl rfl (zAs rfl rfl rfl (zAs rfl rfl rfl (zAs rfl rfl rfl (zAs rfl rfl rfl (zAs rfl rfl rfl zAe))))))) rfl rfl
   refine zJd 1 2 rfl rfl rfl rfl ?_
   refine zBW (s:=[(0,.ptr 0 0),(5,.buf 5 size),(6,.buf 6 roots.length),(9,.d (i64 (posN all ord k:Int)))]) (h:=[.bx (fx 0) none [.buf 2 (nowM all ly ord).length,.buf 1 (zCG all ord).length,.d (i64 (size:Int)),.buf 3 (begL all ly size).length],.buf true 58 1 (w64s (zCG all ord)),.buf true 58 1 (w64s (nowM all ly ord)),.buf true 4 1 (bls (begL all ly size)),.buf true 58 1 (w64s (roots.map (wdN all ly))),.buf true 4 1 (bls (begL all ord size)),.buf true 58 1 (w64s (roots.map (wdN all ord)))]) ?_ ?_
   ·exact zAU (Le_all rfl) (zAK rfl rfl (zAs rfl rfl rfl (zAs rfl rfl rfl (zAs rfl rfl rfl (zAs rfl rfl rfl (zAs rfl rfl rfl (zAs rfl rfl rfl zAe))))))) rfl rfl
   refine zJd 3 5 rfl rfl rfl rfl ?_
   refine zBW (s:=[(0,.ptr 0 0),(5,.buf 3 size),(6,.buf 6 roots.length),(9,.d (i64 (posN all ord k:Int)))]) (h:=[.bx (fx 0) none [.buf 2 (nowM all ly ord).length,.buf 1 (zCG all ord).length,.d (i64 (size:Int)),.buf 5 (begL all ly size).length],.buf true 58 1 (w64s (zCG all ord)),.buf true 58 1 (w64s (nowM all ly ord)),.buf true 4 1 (bls (begL all ord size)),.buf true 58 1 (w64s (roots.map (wdN all ly))),.gone,.buf true 58 1 (w64s (roots.map (wdN all ord)))]) ?_ ?_
   ·exact zAU (Le_all rfl) (zAK rfl rfl (zAs rfl rfl rfl (zAs rfl rfl rfl (zAs rfl rfl rfl (zAs rfl rfl rfl (zDV rfl (zAs rfl rfl rfl zAe))))))) rfl rfl
   have hlt1:¬(posN all ord k:Int)<((zCG all ord).length:Int):=by
    have:=zPn (all:=all) (ord:=ord) (k:=k)
    omega
   skip
   repeat' first|(refine zEd [.ptr 0 0,.ptr 0 0,.ptr 0 0,.ptr 0 0,.ptr 0 0,.ptr 0 (0+1),.buf 1 (zCG all ord).length,.ptr 0 0,.ptr 0 0,.ptr 0 (0+0),.buf 2 (nowM all ly ord).length,.buf 3 size,.ptr 0 0,.ptr 0 (0+0),.top,.ptr 0 0,.ptr 0 (0+1),.top,.ptr 0 0,.ptr 0 (0+3),.top] [14,17,20] [[.bx (fx 0) none [.buf 2 (nowM all ly ord).length,.buf 1 (zCG all ord).length,.d (i64 (size:Int)),.buf 5 (begL all ly size).length],.buf true 58 1 (w64s (zCG all ord)),.buf true 58 1 (w64s (nowM all ly ord)),.buf true 4 1 (bls (begL all ord size)),.buf true 58 1 (w64s (roots.map (wdN all ly))),.gone,.buf true 58 1 (w64s (roots.map (wdN all ord)))],[.bx (fx 0) none [.buf 1 (zCG all ord).length,.buf 1 (zCG all ord).length,.d (i64 (size:Int)),.buf 5 (begL all ly size).length],.buf true 58 1 (w64s (zCG all ord)),.buf true 58 1 (w64s (nowM all ly ord)),.buf true 4 1 (bls (begL all ord size)),.buf true 58 1 (w64s (roots.map (wdN all ly))),.gone,.buf true 58 1 (w64s (roots.map (wdN all ord)))],[.bx (fx 0) none [.buf 1 (zCG all ord).length,.buf 2 (nowM all ly ord).length,.d (i64 (size:Int)),.buf 5 (begL all ly size).length],.buf true 58 1 (w64s (zCG all ord)),.buf true 58 1 (w64s (nowM all ly ord)),.buf true 4 1 (bls (begL all ord size)),.buf true 58 1 (w64s (roots.map (wdN all ly))),.gone,.buf true 58 1 (w64s (roots.map (wdN all ord)))],[.bx (fx 0) none [.buf 1 (zCG all ord).length,.buf 2 (nowM all ly ord).length,.d (i64 (size:Int)),.buf 3 size],.buf true 58 1 (w64s (zCG all ord)),.buf true 58 1 (w64s (nowM all ly ord)),.buf true 4 1 (bls (begL all ord size)),.buf true 58 1 (w64s (roots.map (wdN all ly))),.gone,.buf true 58 1 (w64s (roots.map (wdN all ord)))]] (by kernel_rfl) (by kernel_rfl) rfl (.inl rfl) rfl (by kernel_rfl) rfl rfl ?_ ?_)|apply en_n|apply zAE|apply zAA|apply zAB|apply w0|exact zFQ|(refine zBN rfl rfl rfl (fun η=>zAQ rfl) ?_)|(refine zBN rfl rfl rfl (fun η=>zAl rfl) ?_)|(refine zBN rfl rfl rfl (fun η=>zAa rfl) ?_)|(refine zBN rfl rfl rfl (fun η=>zAF rfl (by first|with_reducible exact zDO|with_reducible exact zEq|with_reducible exact zIF)) ?_)|(refine zDG 0 0 rfl rfl rfl (by kernel_rfl) (by kernel_rfl) (zBc (zAG rfl (by with_reducible exact zBS) rfl rfl) zCl) ?_)|(refine zIL _ rfl rfl rfl rfl (by first|with_reducible exact zBS|with_reducible exact zKN) rfl rfl rfl rfl rfl rfl ?_)|refine ayA rfl ?_|refine ayQ rfl ?_|apply ay (hd:=rfl)|refine zAI rfl ?_|apply zAP|apply zAM|apply ej_r
   all_goals first|omega|skip
   exact zDe (zAU (Le_all rfl) (zAK rfl (by show Ob.bx _ _ [_,_,_,.buf 3 (begL all ord size).length]=_;rw[hbo]) (zAs rfl rfl rfl (zAs rfl rfl rfl (zAs rfl rfl rfl (zAs rfl rfl rfl (zDV rfl (zAs rfl rfl rfl zAe))))))) rfl rfl)
