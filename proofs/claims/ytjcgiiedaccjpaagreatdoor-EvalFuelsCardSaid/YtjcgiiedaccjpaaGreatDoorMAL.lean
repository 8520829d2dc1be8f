/- Parts. -/
import Derived.Test.YtjcgiiedaccjpaaGreatDoorMBB
set_option maxHeartbeats 16000000
namespace Go.Proofs.YtjcgiiedaccjpaaGreatDoor
open _root_.Go.Proofs.Tryz
open Go.Sx
attribute [local irreducible] zAK Program.underlying Ylds zA3 alex zBc zBL awp zAc zBd zBi zBD zBI zBS zA5 zBT zBY zBe zBs zBN VCall
theorem zEe{α:Type}{p:α->Bool}{L:List α}: decide (idxP p L>=0)=L.any p:=by
 cases h:L.any p with
 |true =>
  obtain⟨x,hx,hpx⟩:=qBH.1 h
  have:idxP p L>=0:=by
   unfold idxP;split
   ·omega
   ·rename_i hn;rw[List.findIdx?_eq_none_iff]at hn;rw[hn x hx]at hpx;cases hpx
  simpa using this
 |false =>
  rw[zDC fun j u hu=>by have:=List.any_eq_false.1 h u (qAE hu);simpa using this]
  rfl
theorem zSv{fd:D}{p:Dt->Bool}{L:List (Dt)}(hp:∀(i:Nat) v,L[i]?=some v->VCall prog fd [(fun u:Dt=>u.av) v] (bl (p v)))(hL:L.length<=2000000):
  zAc prog 64 [dts L,fd] (i64 (idxP p L)):=by
 refine zAX func64 rfl ntmps64 results64 rfl ?_
 intro wb St0
 repeat' first|apply en_n|apply zAE|apply zAA|apply zAD|apply w0|apply ay (hd:=rfl)|exact zAC rfl|exact zAB rfl|exact zAo rfl zD6|apply zAI
 refine zAv (α:=Nat) (fun i=>i<=L.length/\∀(j:Nat) u,j<i->L[j]?=some u->p u=false) (fun i=>[(0,.d (dts L)),(1,.d fd),(7,.d (i64 (L.length:Int))),(8,.d (i64 (i:Int)))]) (fun _=>[]) (fun i=>L.length-i) 0 ⟨qAR _,fun j u h=>by omega⟩
  (zAV (Le_cons rfl (Le_cons rfl (Le_d rfl rfl (Le_all rfl)))) zAW rfl rfl) ?_
 rintro i ⟨hi1,hi2⟩
 repeat' first|apply en_n|apply zAE|apply zAA|apply zAD|apply w0|(refine zDW (hp i v hv) rfl (zAP rfl zAF))|(apply aI (hd:=rfl);(first|exact zAq rfl|exact Co_bb rfl rfl rfl|exact Co_nn rfl);exact rfl;(with_reducible exact zCc);exact fun _=>rfl;rotate_left;intro v hv;rotate_right)|apply ay (hd:=rfl)|exact zAC rfl|exact zAB rfl|exact zAg rfl zE6 rfl|exact zCs rfl rfl|refine zBE rfl rfl ?_|(apply zAw;exact rfl;all_goals intro hb)|(apply zBw;exact rfl;all_goals intro hb)|apply zAI|apply zAO|apply zAM|apply zA0|apply en_r|apply en_e|apply eb_n|apply eb_r|apply eb_e|apply zAL|refine res1 rfl ?_
 ·omega
 ·exact zCW (zEk hi2 hv hb).symm
 ·omega
 ·refine⟨i+1,⟨by omega,fun j u hj hu=>?_⟩,by omega,zAV (Le_all rfl) zAW rfl rfl⟩
  rcases qAI j i with h1|h1
  ·exact hi2 j u h1 hu
  ·have hv':L[i]?=some v:=hv
   rw[show j=i by omega,hv']at hu;injection hu with hu;subst hu;exact hb
 ·exact zCW (zDC fun j u hu=>hi2 j u (by have:=(qAA.1 hu).1;omega) hu).symm
theorem zVe{fd:D}{p:Dt->Bool}(hp:∀u,VCall prog fd [u.av] (bl (p u)))(L:List (Dt))(hL:L.length<=2000000):
  zAc prog 64 [dts L,fd] (i64 (idxP p L)):=zSv (fun _ v _=>hp v) hL
theorem zWO{fd:D}{p:Dt->Bool}(hp:∀u,VCall prog fd [u.av] (bl (p u)))(L:List (Dt))(hL:L.length<=2000000):
  zAc prog 61 [dts L,fd] (bl (L.any p)):=by
 refine zAX func61 rfl ntmps61 results61 rfl ?_
 intro wb St0
 exact yX
theorem zVj{fd:D}{p:Dt->Bool}{L:List (Dt)}(hp:∀u∈L,VCall prog fd [u.av] (bl (p u)))(hL:L.length<=2000000):
  zAc prog 61 [dts L,fd] (bl (L.any p)):=by
 have h1:∀(i:Nat) v,L[i]?=some v->VCall prog fd [(fun u:Dt=>u.av) v] (bl (p v)):=fun i v hv=>hp v (qAE hv)
 refine zAX func61 rfl ntmps61 results61 rfl ?_
 intro wb St0
 exact yX
theorem zUK{fd:D}{p:List Nd->Bool}{L:List (List Nd)}(hp:∀(i:Nat) v,L[i]?=some v->VCall prog fd [(fun u:List Nd=>zAm u) v] (bl (p v)))(hL:L.length<=2000000):
  zAc prog 140 [zCG L,fd] (i64 (idxP p L)):=by
 refine zAX func140 rfl ntmps140 results140 rfl ?_
 intro wb St0
 repeat' first|apply en_n|apply zAE|apply zAA|apply zAD|apply w0|apply ay (hd:=rfl)|exact zAC rfl|exact zAB rfl|exact zAo rfl zCB|apply zAI
 refine zAv (α:=Nat) (fun i=>i<=L.length/\∀(j:Nat) u,j<i->L[j]?=some u->p u=false) (fun i=>[(0,.d (zCG L)),(1,.d fd),(7,.d (i64 (L.length:Int))),(8,.d (i64 (i:Int)))]) (fun _=>[]) (fun i=>L.length-i) 0 ⟨qAR _,fun j u h=>by omega⟩
  (zAV (Le_cons rfl (Le_cons rfl (Le_d rfl rfl (Le_all rfl)))) zAW rfl rfl) ?_
 rintro i ⟨hi1,hi2⟩
 repeat' first|apply en_n|apply zAE|apply zAA|apply zAD|apply w0|(refine zDW (hp i v hv) rfl (zAP rfl zAF))|(apply aI (hd:=rfl);(first|exact zAq rfl|exact Co_bb rfl rfl rfl|exact Co_nn rfl);exact rfl;(with_reducible exact zBa);exact fun _=>rfl;rotate_left;intro v hv;rotate_right)|apply ay (hd:=rfl)|exact zAC rfl|exact zAB rfl|exact zAR rfl zAY|exact zCs rfl rfl|refine zBE rfl rfl ?_|(apply zAw;exact rfl;all_goals intro hb)|(apply zBw;exact rfl;all_goals intro hb)|apply zAI|apply zAO|apply zAM|apply zA0|apply en_r|apply en_e|apply eb_n|apply eb_r|apply eb_e|apply zAL|refine res1 rfl ?_
 ·omega
 ·exact zCW (zEk hi2 hv hb).symm
 ·omega
 ·refine⟨i+1,⟨by omega,fun j u hj hu=>?_⟩,by omega,zAV (Le_all rfl) zAW rfl rfl⟩
  rcases qAI j i with h1|h1
  ·exact hi2 j u h1 hu
  ·have hv':L[i]?=some v:=hv
   rw[show j=i by omega,hv']at hu;injection hu with hu;subst hu;exact hb
 ·exact zCW (zDC fun j u hu=>hi2 j u (by have:=(qAA.1 hu).1;omega) hu).symm
theorem zQn{fd:D}{p:List Nd->Bool}{L:List (List Nd)}(hp:∀u∈L,VCall prog fd [zAm u] (bl (p u)))(hL:L.length<=2000000):
  zAc prog 72 [zCG L,fd] (bl (L.any p)):=by
 have h1:∀(i:Nat) v,L[i]?=some v->VCall prog fd [(fun u:List Nd=>zAm u) v] (bl (p v)):=fun i v hv=>hp v (qAE hv)
 refine zAX func72 rfl ntmps72 results72 rfl ?_
 intro wb St0
 exact yX
theorem zVc{fd:D}{p:Nd->Bool}{L:List (Nd)}(hp:∀(i:Nat) v,L[i]?=some v->VCall prog fd [(fun u:Nd=>u.av) v] (bl (p v)))(hL:L.length<=2000000):
  zAc prog 141 [zAm L,fd] (i64 (idxP p L)):=by
 refine zAX func141 rfl ntmps141 results141 rfl ?_
 intro wb St0
 repeat' first|apply en_n|apply zAE|apply zAA|apply zAD|apply w0|apply ay (hd:=rfl)|exact zAC rfl|exact zAB rfl|exact zAo rfl zA8|apply zAI
 refine zAv (α:=Nat) (fun i=>i<=L.length/\∀(j:Nat) u,j<i->L[j]?=some u->p u=false) (fun i=>[(0,.d (zAm L)),(1,.d fd),(7,.d (i64 (L.length:Int))),(8,.d (i64 (i:Int)))]) (fun _=>[]) (fun i=>L.length-i) 0 ⟨qAR _,fun j u h=>by omega⟩
  (zAV (Le_cons rfl (Le_cons rfl (Le_d rfl rfl (Le_all rfl)))) zAW rfl rfl) ?_
 rintro i ⟨hi1,hi2⟩
 repeat' first|apply en_n|apply zAE|apply zAA|apply zAD|apply w0|(refine zDW (hp i v hv) rfl (zAP rfl zAF))|(apply aI (hd:=rfl);(first|exact zAq rfl|exact Co_bb rfl rfl rfl|exact Co_nn rfl);exact rfl;(with_reducible exact zAa);exact fun _=>rfl;rotate_left;intro v hv;rotate_right)|apply ay (hd:=rfl)|exact zAC rfl|exact zAB rfl|exact zAg rfl zAZ rfl|exact zCs rfl rfl|refine zBE rfl rfl ?_|(apply zAw;exact rfl;all_goals intro hb)|(apply zBw;exact rfl;all_goals intro hb)|apply zAI|apply zAO|apply zAM|apply zA0|apply en_r|apply en_e|apply eb_n|apply eb_r|apply eb_e|apply zAL|refine res1 rfl ?_
 ·omega
 ·exact zCW (zEk hi2 hv hb).symm
 ·omega
 ·refine⟨i+1,⟨by omega,fun j u hj hu=>?_⟩,by omega,zAV (Le_all rfl) zAW rfl rfl⟩
  rcases qAI j i with h1|h1
  ·exact hi2 j u h1 hu
  ·have hv':L[i]?=some v:=hv
   rw[show j=i by omega,hv']at hu;injection hu with hu;subst hu;exact hb
 ·exact zCW (zDC fun j u hu=>hi2 j u (by have:=(qAA.1 hu).1;omega) hu).symm
theorem zWI{fd:D}{p:Nd->Bool}(hp:∀u,VCall prog fd [u.av] (bl (p u)))(L:List (Nd))(hL:L.length<=2000000):
  zAc prog 141 [zAm L,fd] (i64 (idxP p L)):=zVc (fun _ v _=>hp v) hL
theorem zWM{fd:D}{p:Nd->Bool}(hp:∀u,VCall prog fd [u.av] (bl (p u)))(L:List (Nd))(hL:L.length<=2000000):
  zAc prog 74 [zAm L,fd] (bl (L.any p)):=by
 refine zAX func74 rfl ntmps74 results74 rfl ?_
 intro wb St0
 exact yX
theorem zVd{fd:D}{p:Int->Bool}{L:List (Int)}(hp:∀(i:Nat) v,L[i]?=some v->VCall prog fd [(fun u:Int=>i64 u) v] (bl (p v)))(hL:L.length<=2000000):
  zAc prog 171 [zBr L,fd] (i64 (idxP p L)):=by
 refine zAX func171 rfl ntmps171 results171 rfl ?_
 intro wb St0
 repeat' first|apply en_n|apply zAE|apply zAA|apply zAD|apply w0|apply ay (hd:=rfl)|exact zAC rfl|exact zAB rfl|exact zAo rfl zDk|apply zAI
 refine zAv (α:=Nat) (fun i=>i<=L.length/\∀(j:Nat) u,j<i->L[j]?=some u->p u=false) (fun i=>[(0,.d (zBr L)),(1,.d fd),(7,.d (i64 (L.length:Int))),(8,.d (i64 (i:Int)))]) (fun _=>[]) (fun i=>L.length-i) 0 ⟨qAR _,fun j u h=>by omega⟩
  (zAV (Le_cons rfl (Le_cons rfl (Le_d rfl rfl (Le_all rfl)))) zAW rfl rfl) ?_
 rintro i ⟨hi1,hi2⟩
 repeat' first|apply en_n|apply zAE|apply zAA|apply zAD|apply w0|(refine zDW (hp i v hv) rfl (zAP rfl zAF))|(apply aI (hd:=rfl);(first|exact zAq rfl|exact Co_bb rfl rfl rfl|exact Co_nn rfl);exact rfl;(with_reducible exact zBl);exact fun _=>rfl;rotate_left;intro v hv;rotate_right)|apply ay (hd:=rfl)|exact zAC rfl|exact zAB rfl|exact zAR rfl zAd|exact zCs rfl rfl|refine zBE rfl rfl ?_|(apply zAw;exact rfl;all_goals intro hb)|(apply zBw;exact rfl;all_goals intro hb)|apply zAI|apply zAO|apply zAM|apply zA0|apply en_r|apply en_e|apply eb_n|apply eb_r|apply eb_e|apply zAL|refine res1 rfl ?_
 ·omega
 ·exact zCW (zEk hi2 hv hb).symm
 ·omega
 ·refine⟨i+1,⟨by omega,fun j u hj hu=>?_⟩,by omega,zAV (Le_all rfl) zAW rfl rfl⟩
  rcases qAI j i with h1|h1
  ·exact hi2 j u h1 hu
  ·have hv':L[i]?=some v:=hv
   rw[show j=i by omega,hv']at hu;injection hu with hu;subst hu;exact hb
 ·exact zCW (zDC fun j u hu=>hi2 j u (by have:=(qAA.1 hu).1;omega) hu).symm
theorem zWJ{fd:D}{p:Int->Bool}(hp:∀u,VCall prog fd [i64 u] (bl (p u)))(L:List (Int))(hL:L.length<=2000000):
  zAc prog 171 [zBr L,fd] (i64 (idxP p L)):=zVd (fun _ v _=>hp v) hL
theorem zWN{fd:D}{p:Int->Bool}(hp:∀u,VCall prog fd [i64 u] (bl (p u)))(L:List (Int))(hL:L.length<=2000000):
  zAc prog 137 [zBr L,fd] (bl (L.any p)):=by
 refine zAX func137 rfl ntmps137 results137 rfl ?_
 intro wb St0
 exact yX
theorem zVa{fd:D}{p:List UInt8->Bool}{L:List (List UInt8)}(hp:∀(i:Nat) v,L[i]?=some v->VCall prog fd [(fun u:List UInt8=>str u) v] (bl (p v)))(hL:L.length<=2000000):
  zAc prog 142 [strs L,fd] (i64 (idxP p L)):=by
 refine zAX func142 rfl ntmps142 results142 rfl ?_
 intro wb St0
 repeat' first|apply en_n|apply zAE|apply zAA|apply zAD|apply w0|apply ay (hd:=rfl)|exact zAC rfl|exact zAB rfl|(apply zAo;exact rfl;(with_reducible first|exact zCa|exact zCa))|apply zAI
 refine zAv (α:=Nat) (fun i=>i<=L.length/\∀(j:Nat) u,j<i->L[j]?=some u->p u=false) (fun i=>[(0,.d (strs L)),(1,.d fd),(7,.d (i64 (L.length:Int))),(8,.d (i64 (i:Int)))]) (fun _=>[]) (fun i=>L.length-i) 0 ⟨qAR _,fun j u h=>by omega⟩
  (zAV (Le_cons rfl (Le_cons rfl (Le_d rfl rfl (Le_all rfl)))) zAW rfl rfl) ?_
 rintro i ⟨hi1,hi2⟩
 repeat' first|apply en_n|apply zAE|apply zAA|apply zAD|apply w0|(refine zDW (hp i v hv) rfl (zAP rfl zAF))|(apply aI (hd:=rfl);(first|exact zAq rfl|exact Co_bb rfl rfl rfl|exact Co_nn rfl);exact rfl;(with_reducible first|exact zBZ|exact zBZ);exact fun _=>rfl;rotate_left;intro v hv;rotate_right)|apply ay (hd:=rfl)|exact zAC rfl|exact zAB rfl|exact zAR rfl zAr|exact zCs rfl rfl|refine zBE rfl rfl ?_|(apply zAw;exact rfl;all_goals intro hb)|(apply zBw;exact rfl;all_goals intro hb)|apply zAI|apply zAO|apply zAM|apply zA0|apply en_r|apply en_e|apply eb_n|apply eb_r|apply eb_e|apply zAL|refine res1 rfl ?_
 ·omega
 ·exact zCW (zEk hi2 hv hb).symm
 ·omega
 ·refine⟨i+1,⟨by omega,fun j u hj hu=>?_⟩,by omega,zAV (Le_all rfl) zAW rfl rfl⟩
  rcases qAI j i with h1|h1
  ·exact hi2 j u h1 hu
  ·have hv':L[i]?=some v:=hv
   rw[show j=i by omega,hv']at hu;injection hu with hu;subst hu;exact hb
 ·exact zCW (zDC fun j u hu=>hi2 j u (by have:=(qAA.1 hu).1;omega) hu).symm
theorem zWH{fd:D}{p:List UInt8->Bool}(hp:∀u,VCall prog fd [str u] (bl (p u)))(L:List (List UInt8))(hL:L.length<=2000000):
  zAc prog 142 [strs L,fd] (i64 (idxP p L)):=zVa (fun _ v _=>hp v) hL
theorem zWL{fd:D}{p:List UInt8->Bool}(hp:∀u,VCall prog fd [str u] (bl (p u)))(L:List (List UInt8))(hL:L.length<=2000000):
  zAc prog 75 [strs L,fd] (bl (L.any p)):=by
 refine zAX func75 rfl ntmps75 results75 rfl ?_
 intro wb St0
 exact yX
theorem zVf{fd:D}{p:Nat->Bool}{L:List (Nat)}(hp:∀(i:Nat) v,L[i]?=some v->VCall prog fd [(fun u:Nat=>biD u) v] (bl (p v)))(hL:L.length<=2000000):
  zAc prog 144 [bis L,fd] (i64 (idxP p L)):=by
 refine zAX func144 rfl ntmps144 results144 rfl ?_
 intro wb St0
 repeat' first|apply en_n|apply zAE|apply zAA|apply zAD|apply w0|apply ay (hd:=rfl)|exact zAC rfl|exact zAB rfl|exact zAo rfl zMu|apply zAI
 refine zAv (α:=Nat) (fun i=>i<=L.length/\∀(j:Nat) u,j<i->L[j]?=some u->p u=false) (fun i=>[(0,.d (bis L)),(1,.d fd),(7,.d (i64 (L.length:Int))),(8,.d (i64 (i:Int)))]) (fun _=>[]) (fun i=>L.length-i) 0 ⟨qAR _,fun j u h=>by omega⟩
  (zAV (Le_cons rfl (Le_cons rfl (Le_d rfl rfl (Le_all rfl)))) zAW rfl rfl) ?_
 rintro i ⟨hi1,hi2⟩
 repeat' first|apply en_n|apply zAE|apply zAA|apply zAD|apply w0|(refine zDW (hp i v hv) rfl (zAP rfl zAF))|(apply aI (hd:=rfl);(first|exact zAq rfl|exact Co_bb rfl rfl rfl|exact Co_nn rfl);exact rfl;(with_reducible exact zFP);exact fun _=>rfl;rotate_left;intro v hv;rotate_right)|apply ay (hd:=rfl)|exact zAC rfl|exact zAB rfl|exact zAg rfl zCF rfl|exact zCs rfl rfl|refine zBE rfl rfl ?_|(apply zAw;exact rfl;all_goals intro hb)|(apply zBw;exact rfl;all_goals intro hb)|apply zAI|apply zAO|apply zAM|apply zA0|apply en_r|apply en_e|apply eb_n|apply eb_r|apply eb_e|apply zAL|refine res1 rfl ?_
 ·omega
 ·exact zCW (zEk hi2 hv hb).symm
 ·omega
 ·refine⟨i+1,⟨by omega,fun j u hj hu=>?_⟩,by omega,zAV (Le_all rfl) zAW rfl rfl⟩
  rcases qAI j i with h1|h1
  ·exact hi2 j u h1 hu
  ·have hv':L[i]?=some v:=hv
   rw[show j=i by omega,hv']at hu;injection hu with hu;subst hu;exact hb
 ·exact zCW (zDC fun j u hu=>hi2 j u (by have:=(qAA.1 hu).1;omega) hu).symm
theorem zWK{fd:D}{p:Nat->Bool}(hp:∀u,VCall prog fd [biD u] (bl (p u)))(L:List (Nat))(hL:L.length<=2000000):
  zAc prog 144 [bis L,fd] (i64 (idxP p L)):=zVf (fun _ v _=>hp v) hL
