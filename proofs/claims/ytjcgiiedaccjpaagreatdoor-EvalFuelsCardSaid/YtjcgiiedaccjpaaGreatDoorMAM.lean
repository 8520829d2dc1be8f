/- Parts. -/
import Derived.Test.YtjcgiiedaccjpaaGreatDoorMAL
set_option maxHeartbeats 16000000
namespace Go.Proofs.YtjcgiiedaccjpaaGreatDoor
open _root_.Go.Proofs.Tryz
open Go.Sx
theorem zG0{P:Program}{f:FuncId}{cs ds:List D}{res:D}(hb:zAK P f=true)(hc:zAc P f (ds++cs) res): VCall P (.clo f cs) ds res:=⟨_,_,rfl,hb,hc⟩
attribute [local irreducible] zAK Program.underlying Ylds zA3 alex zBc zBL awp zAc zBd zBi zBD zBI zBS zA5 zBT zBY zBe zBs zBN VCall
theorem zHx(s:List UInt8): zAc prog 69 [str s] (bl (conF s)):=by
 refine zAX func69 rfl ntmps69 results69 rfl ?_
 intro wb St0
 repeat' first|apply en_n|apply zAE|apply zAA|apply zAD|apply w0|exact zAf zLK zLy (PD_d rfl rfl (PD_d rfl rfl zA6)) rfl|(refine zAU zF6 (zGM ⟨2,s,0,0⟩) (CoLA rfl))|apply ay (hd:=rfl)|exact zAC rfl|exact zAB rfl|apply zAM|apply zAL|refine res1 rfl ?_
 rfl
theorem zNK(d:Dt)(v:Int): zAc prog 136 [i64 v,.ref d.cells] (bl (decide (d.params<=v))):=by
 refine zAX func136 rfl ntmps136 results136 rfl ?_
 intro wb St0
 exact yW
abbrev hiD(d:Dt): D:=.clo 136 [.ref d.cells]
theorem zOk(d:Dt)(t:List Nd)(ht:t.length<=2000000): zAc prog 135 [zAm t,.ref d.cells] (bl (argF d.params t)):=by
 have hc:=zM7 t ht
 have hv:=zUI t ht
 have hl:(zHP t).length<=2000000:=by
  unfold zHP;split
  ·have:=zHO t [];simp at this;unfold zFR;omega
  ·exact qAR _
 have hF:zAc prog 137 [zBr (zHP t),hiD d] (bl ((zHP t).any fun v=>decide (d.params<=v))):=zWN (fun u=>zG0 zNW (zNK d u)) (zHP t) hl
 unfold argF
 generalize (zHP t).any (fun v=>decide (d.params<=v))=a at *
 generalize zHP t=vs at *
 unfold ckT at hc
 cases h:okT t with
 |true =>
  rw[if_pos h]at hc
  refine zAX func135 rfl ntmps135 results135 rfl ?_
  intro wb St0
  repeat' first|apply en_n|apply zAE|apply zAA|apply zAD|apply w0|exact zBU rfl rfl|(refine zFB (zAP rfl zAF))|(refine zAU zJE hc (CoLA rfl))|(refine zAU zTb hv (CoLA rfl))|(refine zAU zUy hF (CoLA rfl))|apply ay (hd:=rfl)|exact zAC rfl|exact zAB rfl|exact zBX rfl|exact zAi rfl rfl|refine w1 rfl rfl ?_|apply zAM|apply zAL|refine res1 rfl ?_
  all_goals exact zBo (by first|rfl|simp)
 |false =>
  rw[if_neg (by rw[h];decide)]at hc
  refine zAX func135 rfl ntmps135 results135 rfl ?_
  intro wb St0
  repeat' first|apply en_n|apply zAE|apply zAA|apply zAD|apply w0|refine k1u (hd:=rfl) rfl rfl ?_|exact zBW rfl rfl|(refine zFB (zAP rfl zAF))|(refine zAU zJE hc (CoLA rfl))|apply ay (hd:=rfl)|exact zAC rfl|exact zAB rfl|exact zAj rfl rfl|apply zAM|apply zAL|refine res1 rfl ?_
  all_goals exact zBo (by first|rfl|simp)
abbrev argD(d:Dt): D:=.clo 135 [.ref d.cells]
theorem zOj(d:Dt)(t:List Nd)(ht:t.length<=2000000): zAc prog 139 [zAm t,.ref [argD d]] (bl (!argF d.params t)):=by
 have hc:VCall prog (argD d) [zAm t] (bl (argF d.params t)):=zG0 zPT (zOk d t ht)
 refine zAX func139 rfl ntmps139 results139 rfl ?_
 intro wb St0
 exact yW
theorem zDb{d:Dt}(h:conF d.name=false\/d.params<0\/d.params>8\/(d.cons.length:Int)<1\/(d.cons.length:Int)>60\/∃c∈d.cons,zEz d.params c=false): zD0 d=false:=by
 cases hq:zD0 d with
 |false=>rfl
 |true =>
  unfold zD0 at hq
  simp only[qAP,decide_eq_true_eq]at hq
  obtain⟨⟨h1,h2⟩,h3⟩:=hq
  rcases h with h|h|h|h|h|⟨c,hc,h⟩
  ·rw[h]at h1;cases h1
  ·omega
  ·omega
  ·omega
  ·omega
  ·rw[qAF.1 h3 c hc]at h;cases h
theorem zHX{p:Int}{c:Ct}(h:conF c.name=false\/(c.args.length:Int)>8\/(c.args.any fun t=>!argF p t)=true): zEz p c=false:=by
 cases hq:zEz p c with
 |false=>rfl
 |true =>
  unfold zEz at hq
  simp only[qAP,decide_eq_true_eq]at hq
  obtain⟨⟨h1,h2⟩,h3⟩:=hq
  rcases h with h|h|h
  ·rw[h]at h1;cases h1
  ·omega
  ·rw[h]at h3;cases h3
theorem zOi{p:Int}{c:Ct}(h1:conF c.name=true)(h2:¬(c.args.length:Int)>8)(h3:(c.args.any fun t=>!argF p t)=false): zEz p c=true:=by
 unfold zEz
 rw[h1,h3,decide_eq_true (by omega)];rfl
theorem zP3(d:Dt)(hc:d.cons.length<=2000000)(ha:∀c∈d.cons,c.args.length<=2000000/\∀t∈c.args,t.length<=2000000): zAc prog 63 [d.av] (bl (zD0 d)):=by
 have hF:∀c∈d.cons,zAc prog 72 [zCG c.args,.clo 139 [.ref [argD d]]] (bl (c.args.any fun t=>!argF d.params t)):=fun c hc=>by
  obtain⟨h1,h2⟩:=ha c hc
  exact zQn (fun u hu=>zG0 zPS (zOj d u (h2 u hu))) h1
 refine zAX func63 rfl ntmps63 results63 rfl ?_
 intro wb St0
 repeat' first|(apply ay (hd:=rfl);apply zCk;exact rfl;exact rfl)|(refine zGk (ds:=[argD d]) 0 3 rfl rfl rfl ?_)|apply en_n|apply zAE|apply zAA|apply zAD|apply w0|refine k0u (hd:=rfl) rfl rfl ?_|(refine zFB (zAP rfl zAF))|(apply zDB;exact rfl;(with_reducible first|exact zE8|exact zHt|exact zB4))|(refine zAU zJI (zHx _) (CoLA rfl))|(apply zBF (hd:=rfl) (hro:=rfl);(with_reducible exact zRn))|apply ay (hd:=rfl)|exact zAC rfl|exact zAB rfl|(apply zAR;exact rfl;(with_reducible first|exact zC0|exact zAd|exact zAr))|exact zAo rfl zEN|exact zCs rfl rfl|exact zGL rfl rfl|exact zBX rfl|exact zAi rfl rfl|exact zAj rfl rfl|refine w1 rfl rfl ?_|(apply gD;exact rfl;exact rfl;all_goals intro hb)|(apply g1;exact rfl;exact rfl;all_goals intro hb)|(refine w0' ?_)|(apply zAl;exact rfl;exact rfl;exact rfl;(with_reducible exact zMo);exact rfl;exact rfl;exact rfl;exact rfl)|(apply zAw;exact rfl;all_goals intro hb)|refine zAN rfl ?_|apply zAI|apply zAO|apply zAM|apply en_r|apply zAL|refine res1 rfl ?_
 all_goals first|exact zBo (zDb (.inl (by simpa using hb))).symm|exact zBo (zDb (.inr (.inl hb))).symm|exact zBo (zDb (.inr (.inr (.inl hb)))).symm|exact zBo (zDb (.inr (.inr (.inr (.inl hb))))).symm|exact zBo (zDb (.inr (.inr (.inr (.inr (.inl hb)))))).symm|skip
 rename_i g1' g2' g3' g4'
 refine zAv (α:=Nat) (fun i=>i<=d.cons.length/\∀(j:Nat) c,j<i->d.cons[j]?=some c->zEz d.params c=true) (fun i=>[(3,.d (.ref [argD d])),(35,.d (cts d.cons)),(36,.d (i64 (d.cons.length:Int))),(37,.d (i64 (i:Int)))]) (fun _=>[]) (fun i=>d.cons.length-i) 0 ⟨qAR _,fun j u h=>by omega⟩
  (zAV (Le_cons rfl (Le_cons rfl (Le_d rfl rfl (Le_all rfl)))) zAW rfl rfl) ?_
 rintro i ⟨hi1,hi2⟩
 repeat' first|apply en_n|apply zAE|apply zAA|apply zAD|apply w0|refine k0u (hd:=rfl) rfl rfl ?_|(refine zFB (zAP rfl zAF))|(refine zAU zJI (zHx _) (CoLA rfl))|(refine zAU zPO (hF v (qAE hv)) (CoLA rfl))|(apply aI (hd:=rfl);(first|exact zAq rfl|exact Co_bb rfl rfl rfl|exact Co_nn rfl);exact rfl;(with_reducible exact zEO);exact fun _=>rfl;rotate_left;intro v hv;rotate_right)|(apply zBF (hd:=rfl) (hro:=rfl);(with_reducible exact zJP))|apply ay (hd:=rfl)|exact zAC rfl|exact zAB rfl|exact zAg rfl zE5 rfl|exact zAo rfl zCB|exact zCs rfl rfl|exact zGL rfl rfl|refine zBE rfl rfl ?_|exact zBX rfl|exact zAi rfl rfl|exact zAj rfl rfl|(apply zAH;exact rfl;(with_reducible first|exact zEY|exact zB1))|(apply zAJ;exact rfl;(with_reducible first|exact zCP|exact zAr);exact rfl;exact rfl)|refine w1 rfl rfl ?_|(apply gD;exact rfl;exact rfl;all_goals intro hb)|(apply g1;exact rfl;exact rfl;all_goals intro hb)|(refine w0' ?_)|(apply zAl;exact rfl;exact rfl;exact rfl;(with_reducible exact zE5);exact rfl;exact rfl;exact rfl;exact rfl)|(apply zAw;exact rfl;all_goals intro hb)|refine zAN rfl ?_|(apply zBw;exact rfl;all_goals intro hb)|apply zAI|apply zAO|apply zAM|apply zA0|apply en_r|apply en_e|apply eb_n|apply eb_r|apply eb_e|apply zAL|refine res1 rfl ?_
 ·omega
 ·exact zBo (zDb (.inr (.inr (.inr (.inr (.inr ⟨v,qAE hv,zHX (.inl (by simpa using hb))⟩)))))).symm
 ·exact zBo (zDb (.inr (.inr (.inr (.inr (.inr ⟨v,qAE hv,zHX (.inr (.inl hb))⟩)))))).symm
 ·exact zBo (zDb (.inr (.inr (.inr (.inr (.inr ⟨v,qAE hv,zHX (.inr (.inr hb))⟩)))))).symm
 ·omega
 ·rename_i k1' k2' k3'
  refine⟨i+1,⟨by omega,fun j u hj hu=>?_⟩,by omega,zAV (Le_all rfl) zAW rfl rfl⟩
  rcases qAI j i with h1|h1
  ·exact hi2 j u h1 hu
  ·have hv':d.cons[i]?=some v:=hv
   rw[show j=i by omega,hv']at hu;injection hu with hu;subst hu
   exact zOi (by simpa using k2') k3' hb
 ·refine zBo ?_
  unfold zD0
  rw[show conF d.name=true by simpa using g1',decide_eq_true (by omega)]
  exact(qAF.2 fun c hc=>by
   obtain⟨j,hj⟩:=qA0.1 hc
   exact hi2 j c (by have:=(qAA.1 hj).1;omega) hj).symm
theorem zNt(d:Dt)(hc:d.cons.length<=2000000)(ha:∀c∈d.cons,c.args.length<=2000000/\∀t∈c.args,t.length<=2000000): zAc prog 62 [d.av] (bl (!zD0 d)):=by
 have h:=zP3 d hc ha
 refine zAX func62 rfl ntmps62 results62 rfl ?_
 intro wb St0
 exact yW
theorem zNs(d u:Dt): zAc prog 65 [u.av,.ref d.cells] (bl (decide (u.name=d.name))):=by
 refine zAX func65 rfl ntmps65 results65 rfl ?_
 intro wb St0
 exact yW
