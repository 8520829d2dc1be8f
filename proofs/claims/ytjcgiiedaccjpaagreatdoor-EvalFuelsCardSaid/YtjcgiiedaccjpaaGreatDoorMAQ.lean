/- Parts. -/
import Derived.Test.YtjcgiiedaccjpaaGreatDoorMAP
set_option maxHeartbeats 16000000
namespace Go.Proofs.YtjcgiiedaccjpaaGreatDoor
open _root_.Go.Proofs.Tryz
open Go.Sx
theorem zQu{l:List Dt}{i:Nat}{v:Dt}(hi:l[i]?=some v)(h:idxP (fun u=>decide (u.name=v.name)) l<(i:Int)): zL8 l=true:=by
 refine qBH.2 ⟨i,qBL.2 (qAA.1 hi).1,?_⟩
 rw[qAQ,hi]
 exact decide_eq_true h
theorem zQv{l:List Dt}(h:∀(i:Nat) (v:Dt),l[i]?=some v->¬idxP (fun u=>decide (u.name=v.name)) l<(i:Int)): zL8 l=false:=by
 refine Bool.eq_false_iff.2 fun hc=>?_
 obtain⟨i,hi,hq⟩:=qBH.1 hc
 have hl:=qBL.1 hi
 have:=h i l[i] (qAB hl)
 rw[qAQ,qAB hl]at hq
 exact this (of_decide_eq_true hq)
attribute [local irreducible] zAK Program.underlying Ylds zA3 alex zBc zBL awp zAc zBd zBi zBD zBI zBS zA5 zBT zBY zBe zBs zBN VCall
theorem zQA{l:List Dt}(hL:DtL l): zAc prog 30 [dts l] (i64 (zP9 l)):=by
 have hl:=hL.len
 have h1:zAc prog 61 [dts l,.clo 62 []] (bl (l.any fun d=>!zD0 d)) :=
  zVj (fun u hu=>zG0 zPY (zNt u (hL.cons u hu) (hL.args u hu))) hl
 have h2:∀d:Dt,zAc prog 64 [dts l,.clo 65 [.ref d.cells]] (i64 (idxP (fun u=>decide (u.name=d.name)) l)) :=
  fun d=>zVe (fun u=>zG0 zPX (zNs d u)) l hl
 have h3:zAc prog 67 [dts l,.clo 66 [.ref [dts l]]] (bl (zDr (zGw l) 0 l).isSome) :=
  zSg (fun i k d hd hk=>zG0 zPW (zNr hL hd (qAB hk))) hl hL.cons
 have h4:zAc prog 67 [dts l,.clo 71 [.ref [dts l],.ref [zNN l]]] (bl (zDr (zGt l) 0 l).isSome) :=
  zSg (fun i k d hd hk=>zG0 zPU (zNp l hl hd (qAB hk) (hL.cons d (qAE hd)) (hL.args d (qAE hd) _ (List.getElem_mem hk)))) hl hL.cons
 have e1:l.any (fun d=>!zD0 d) = !l.all zD0:=by rw[List.any_eq_not_all_not];simp
 have e3:(zDr (zGw l) 0 l).isSome=true↔zDr (zGw l) 0 l≠none:=by cases zDr (zGw l) 0 l <;> simp
 have e4:(zDr (zGt l) 0 l).isSome=true↔zDr (zGt l) 0 l≠none:=by cases zDr (zGt l) 0 l <;> simp
 rw[e1]at h1
 unfold zP9
 generalize l.all zD0=q1 at *
 generalize (zDr (zGw l) 0 l).isSome=q3 at *
 generalize (zDr (zGt l) 0 l).isSome=q4 at *
 refine zAX func30 rfl ntmps30 results30 rfl ?_
 intro wb St0
 repeat' first|(apply ay (hd:=rfl);apply zCk;exact rfl;exact rfl)|apply en_n|apply zAE|apply zAA|apply zAD|apply w0|refine k0u (hd:=rfl) rfl rfl ?_|exact zCm rfl zE7|(refine zAU zSc h1 (zAP rfl (zJj rfl zAF)))|apply ay (hd:=rfl)|exact zAC rfl|exact zAB rfl|exact zAo rfl zD6|exact zGL rfl rfl|exact zAi rfl rfl|exact zAj rfl rfl|refine w1 rfl rfl ?_|(apply gD;exact rfl;exact rfl;all_goals intro hb)|refine zAN rfl ?_|(apply zBw;exact rfl;all_goals intro hb)|apply zAI|apply zAO|apply zAM|apply en_r|apply zAL|refine res1 rfl ?_
 ·exact zCW (by rw[if_pos (.inl (by omega))])
 ·exact zCW (by rw[if_pos (.inr (by simpa using hb))])
 rename_i hb1
 have hq1:¬(60<l.length\/q1=false):=by
  have:q1=true:=by simpa using hb
  rw[this]
  rintro(h|h)
  ·omega
  ·cases h
 clear hb hb1 h1 e1
 refine zAv (α:=Nat) (fun i=>i<=l.length/\∀(j:Nat) v,j<i->l[j]?=some v->¬idxP (fun u=>decide (u.name=v.name)) l<(j:Int)) (fun i=>[(1,.d (.ref [dts l])),(15,.d (dts l)),(16,.d (i64 (l.length:Int))),(17,.d (i64 (i:Int)))]) (fun _=>[]) (fun i=>l.length-i) 0 ⟨qAR _,fun j u h=>by omega⟩
  (zAV (Le_cons rfl (Le_cons rfl (Le_d rfl rfl (Le_all rfl)))) zAW rfl rfl) ?_
 rintro i ⟨hi1,hi2⟩
 repeat' first|(refine zGk (ds:=v.cells) 0 4 rfl rfl rfl ?_)|(refine zGk (ds:=[zNN l]) 0 6 rfl rfl rfl ?_)|apply en_n|apply zAE|apply zAA|apply zAD|apply w0|(refine zFB (zAP rfl zAF))|exact zCm rfl zE7|(refine zAU zPN (h2 v) (CoLA rfl))|(refine zFB (zAP rfl (zAP rfl zAF)))|(refine zAU zLW h3 (CoLA rfl))|(refine zAU zLW h4 (CoLA rfl))|(apply aI (hd:=rfl);(first|exact zAq rfl|exact Co_bb rfl rfl rfl|exact Co_nn rfl);exact rfl;(with_reducible exact zCc);exact fun _=>rfl;rotate_left;intro v hv;rotate_right)|(apply zBF (hd:=rfl) (hro:=rfl);(with_reducible first|exact zLe|exact zRm))|apply ay (hd:=rfl)|exact zAC rfl|exact zAB rfl|exact zAg rfl zE6 rfl|exact zCs rfl rfl|refine zBE rfl rfl ?_|(refine w0' ?_)|(apply zAl;exact rfl;exact rfl;exact rfl;(with_reducible first|exact zE6|exact zMn);exact rfl;exact rfl;exact rfl;exact rfl)|(apply zAw;exact rfl;all_goals intro hb)|(apply zBw;exact rfl;all_goals intro hb)|apply zAI|apply zAO|apply zAM|apply zA0|apply en_r|apply en_e|apply eb_n|apply eb_r|apply eb_e|apply zAL|refine res1 rfl ?_
 ·omega
 ·exact zCW (by rw[if_neg hq1,if_pos (zQu (i:=i) hv hb)])
 ·omega
 ·refine⟨i+1,⟨by omega,fun j u hj hu=>?_⟩,by omega,zAV (Le_all rfl) zAW rfl rfl⟩
  rcases qAI j i with h1|h1
  ·exact hi2 j u h1 hu
  ·have hv':l[i]?=some v:=hv
   rw[show j=i by omega,hv']at hu;injection hu with hu;subst hu
   rw[show j=i by omega];exact hb
 all_goals have ht:zL8 l=false:=zQv fun j v hj=>hi2 j v (by have:=(qAA.1 hj).1;omega) hj
 ·exact zCW (by rw[if_neg hq1,if_neg (by rw[ht];decide),if_pos (e3.1 hb)])
 ·rename_i hn3
  exact zCW (by rw[if_neg hq1,if_neg (by rw[ht];decide),if_neg (fun h=>by rw[e3.2 h]at hn3;cases hn3),if_pos (e4.1 hb)])
 ·rename_i hn3
  exact zCW (by rw[if_neg hq1,if_neg (by rw[ht];decide),if_neg (fun h=>by rw[e3.2 h]at hn3;cases hn3),if_neg (fun h=>by rw[e4.2 h]at hb;cases hb)])
