/- Parts of the proof. -/
import Derived.Test.YtcagoomibpcdlaaGreatDoorMBU
set_option maxHeartbeats 16000000
namespace Go.Proofs.YtcagoomibpcdlaaGreatDoor
open _root_.Go.Proofs.Tryz
open Go.Sx Go.Vm
abbrev NxO(op:Int)(e:Img->Int->Int->VS->Eff): Prop:=∀(m:Img) (kn:Bool) {k a b:Int} {s:VS},NxAt m k ⟨op,a,b⟩ s->∀(wb:World) (St0:Stab) (Q:Exit->Sl->List Ob->Prop),
 awp ⟨prog,284,wb,St0,fun _=>False,0⟩ (zFs 7 (zDt Tryz.f56)) Q (nxS k s (e m a b s)) (nxB m kn s op a b)->
 awp ⟨prog,284,wb,St0,fun _=>False,0⟩ (zFs 6 (zDt Tryz.f56)) Q (nxS0 k s) (nxB m kn s op a b)
attribute [local irreducible] zAO Program.underlying Ylds zBE alex zB0 zBk awp zAg zB9 zB8 zAU zBj zA6 zDJ zBl zBn zBC zBq zBz zB7 zDQ zBm zBc zBe JFit
theorem zIP: (NxO 1 fun m a _ _=>⟨0,1,decide (a<m.pool.length),true,false⟩)/\(NxO 2 fun _ a _ s=>⟨0,1,decide (a<s.height),true,false⟩)/\(NxO 4 fun _ _ _ s=>⟨0,1,decide (s.of>=0),true,false⟩)/\(NxO 5 fun _ a _ _=>⟨a,0,true,true,false⟩)/\(NxO 6 fun _ a _ _=>⟨a+1,1,true,true,false⟩)/\(NxO 7 fun _ _ _ _=>⟨2,1,true,true,false⟩)/\(NxO 11 fun _ a _ _=>⟨1,1,decide (a<=7),true,false⟩)/\(NxO 12 fun _ a _ _=>⟨takes a,1,decide (a<=13),true,false⟩)/\(NxO 13 fun _ _ _ _=>⟨1,0,true,false,false⟩)/\(NxO 15 fun _ _ _ _=>⟨0,0,true,false,true⟩)/\(NxO 16 fun _ _ _ _=>⟨1,0,true,true,true⟩)/\(NxO 17 fun _ _ _ _=>⟨0,0,true,true,false⟩)/\(NxO 18 fun _ _ b _=>⟨b,1,true,true,false⟩):=by
 refine⟨?_,?_,?_,?_,?_,?_,?_,?_,?_,?_,?_,?_,?_⟩
 all_goals
  intro m kn k a b s hd wb St0 Q h
  obtain⟨hk0,hat0,hbig,him,hh,htr⟩:=hd
  obtain⟨-,-,ha0,ha1,hb0,hb1,-⟩:=him.ins _ (qAH hat0)
  dsimp only at ha0 ha1 hb0 hb1 h
  clear hat0
 all_goals
  conv at h=>arg 2;whnf
  conv=>arg 2;whnf
  repeat' first|(refine zHk (id:=48) ?_)|apply en_n|apply zAG|apply zAA|apply zAD|apply w0|exact zAi rfl rfl|exact zAn rfl rfl|(refine zAd zKR (zRP _) (CoLA rfl))|apply ay (hd:=rfl)|exact zAF rfl|exact zAB rfl|exact zBD rfl zD4|exact zEM rfl rfl|exact zGk rfl rfl|refine zBG rfl rfl ?_|(apply zAC;exact rfl;(with_reducible first|exact zDG|exact zB2|exact zAv|exact zAl|exact zCE))|(apply zAE;exact rfl;(with_reducible first|exact zAx|exact zAa|exact zAP);exact rfl;exact rfl)|refine zAI rfl ?_|refine zAJ rfl ?_|apply zAK|apply zAR|refine zAf (by kernel_rfl) (by kernel_rfl) ?_|apply eb_n
  all_goals first|omega|skip
  refine Stop.go ?_
  refine zCI ?_ h
  exact zAS (Le_all rfl) (zBF _) rfl rfl
theorem zRv: (NxO 0 fun _ _ _ s=>⟨1,0, !decide (s.of>=0)&&s.tries.isEmpty,false,false⟩)/\(NxO 3 fun _ a _ s=>⟨0,1,decide (s.of>=0)&&decide (a<s.has),true,false⟩)/\(NxO 8 fun _ _ _ s=>⟨2,0,decide (s.of>=0)&&s.tries.isEmpty,false,false⟩)/\(NxO 9 fun _ _ _ s=>⟨1,0,decide (s.of>=0)&&s.tries.isEmpty,false,false⟩)/\(NxO 14 fun _ _ _ s=>⟨0,0, !s.tries.isEmpty,true,false⟩):=by
 refine⟨?_,?_,?_,?_,?_⟩
 all_goals
  intro m kn k a b s hd wb St0 Q h
  obtain⟨hk0,hat0,hbig,him,hh,htr⟩:=hd
  obtain⟨-,-,ha0,ha1,hb0,hb1,-⟩:=him.ins _ (qAH hat0)
  dsimp only at ha0 ha1 hb0 hb1 h
  clear hat0
  revert h
  unfold nxS0
  generalize decide (s.of>=0)=fn
  generalize s.tries.isEmpty=free
  intro h
  cases fn <;> cases free
 all_goals
  conv at h=>arg 2;whnf
  conv=>arg 2;whnf
  repeat' first|(refine zHk (id:=48) ?_)|apply en_n|apply zAG|apply zAA|apply zAD|apply w0|refine k1ud (hd:=rfl) rfl rfl ?_|refine k1u (hd:=rfl) rfl rfl ?_|exact zAi rfl rfl|exact zAn rfl rfl|apply ay (hd:=rfl)|exact zAF rfl|exact zAB rfl|exact zEM rfl rfl|exact zBS rfl|exact zAZ rfl rfl|exact zAV rfl rfl|(apply zAC;exact rfl;(with_reducible first|exact zGO|exact zAv|exact zAl))|(apply zAE;exact rfl;(with_reducible first|exact zAa|exact zAP);exact rfl;exact rfl)|refine w1 rfl rfl ?_|refine zAI rfl ?_|refine zAJ rfl ?_|apply zAK|refine zAf (by kernel_rfl) (by kernel_rfl) ?_|apply eb_n
  all_goals first|omega|skip
  refine Stop.go ?_
  refine zCI ?_ h
  exact zAS (Le_all rfl) (zBF _) rfl rfl
theorem zZS: (NxO 10 fun m a b _=>⟨b,1,zFk conF m a&&decide (b<=8),true,false⟩):=by
 all_goals
  intro m kn k a b s hd wb St0 Q h
  obtain⟨hk0,hat0,hbig,him,hh,htr⟩:=hd
  obtain⟨-,-,ha0,ha1,hb0,hb1,-⟩:=him.ins _ (qAH hat0)
  dsimp only at ha0 ha1 hb0 hb1 h
  clear hat0
  have hC:=zMD m him a ha0
  unfold zCm at hC
  revert h
  generalize zFk conF m a=ca at *
  intro h
  cases ca
 all_goals
  conv at h=>arg 2;whnf
  conv=>arg 2;whnf
  repeat' first|(refine zHk (id:=48) ?_)|apply en_n|apply zAG|apply zAA|apply zAD|apply w0|refine k1ud (hd:=rfl) rfl rfl ?_|exact zAi rfl rfl|exact zAn rfl rfl|(refine zAd zIc hC (CoLA rfl))|apply ay (hd:=rfl)|exact zAF rfl|exact zAB rfl|exact zGk rfl rfl|exact zAZ rfl rfl|exact zAV rfl rfl|(apply zAC;exact rfl;(with_reducible first|exact zAv|exact zAl|exact zCE))|(apply zAE;exact rfl;(with_reducible first|exact zAa|exact zAP);exact rfl;exact rfl)|exact zBA rfl zCt rfl rfl rfl|refine w1 rfl rfl ?_|refine zAI rfl ?_|refine zAJ rfl ?_|apply zAK|refine zAf (by kernel_rfl) (by kernel_rfl) ?_|apply eb_n
  all_goals first|omega|skip
  refine Stop.go ?_
  refine zCI ?_ h
  exact zAS (Le_all rfl) (zBF _) rfl rfl
theorem zZR: (NxO 19 fun m _ b s=>⟨0,0,decide (s.height>=1)&&zFk conF m b,true,true⟩):=by
 all_goals
  intro m kn k a b s hd wb St0 Q h
  obtain⟨hk0,hat0,hbig,him,hh,htr⟩:=hd
  obtain⟨-,-,ha0,ha1,hb0,hb1,-⟩:=him.ins _ (qAH hat0)
  dsimp only at ha0 ha1 hb0 hb1 h
  clear hat0
  have hC:=zMD m him b hb0
  unfold zCm at hC
  revert h
  generalize zFk conF m b=ca at *
  intro h
  by_cases hh1:s.height>=1 <;> cases ca
  all_goals first|rw[show decide (s.height>=1)=true from decide_eq_true hh1]at h|rw[show decide (s.height>=1)=false from decide_eq_false hh1]at h
 all_goals
  conv at h=>arg 2;whnf
  conv=>arg 2;whnf
  repeat' first|(refine zHk (id:=48) ?_)|apply en_n|apply zAG|apply zAA|apply zAD|apply w0|refine k1u (hd:=rfl) rfl rfl ?_|exact zHL rfl rfl|exact zGm rfl rfl|exact zAi rfl rfl|exact zAn rfl rfl|(refine zAd zIc hC (CoLA rfl))|apply ay (hd:=rfl)|exact zAF rfl|exact zAB rfl|exact zAZ rfl rfl|exact zAV rfl rfl|(apply zAC;exact rfl;(with_reducible first|exact zDG|exact zAv|exact zCE))|(apply zAE;exact rfl;(with_reducible first|exact zAa|exact zAP);exact rfl;exact rfl)|exact zBA rfl zCt rfl rfl rfl|refine w1 rfl rfl ?_|refine zAI rfl ?_|refine zAJ rfl ?_|apply zAK|apply eb_n
  all_goals first|omega|skip
  refine Stop.go ?_
  refine zCI ?_ h
  exact zAS (Le_all rfl) (zBF _) rfl rfl
theorem zZQ: (NxO 20 fun m _ b s=>⟨0,0,decide (s.height>=1)&&zHu m b,true,true⟩):=by
 all_goals
  intro m kn k a b s hd wb St0 Q h
  obtain⟨hk0,hat0,hbig,him,hh,htr⟩:=hd
  obtain⟨-,-,ha0,ha1,hb0,hb1,-⟩:=him.ins _ (qAH hat0)
  dsimp only at ha0 ha1 hb0 hb1 h
  clear hat0
  have hn:∀v,m.pool[b.toNat]?=some v->zHu m b = !v.isText:=fun v hv=>by unfold zHu;rw[hv]
  have hn0:¬b<(m.pool.length:Int)->zHu m b=false:=fun h=>by unfold zHu;rw[qBR.2 (by omega)]
  have hc:(s.height>=1/\b<(m.pool.length:Int)/\∃c,m.pool[b.toNat]?=some c)\/(s.height>=1/\¬b<(m.pool.length:Int))\/¬s.height>=1:=by
   by_cases hh1:s.height>=1
   ·by_cases hb1:b<(m.pool.length:Int)
    ·exact .inl ⟨hh1,hb1,_,qAB (by omega)⟩
    ·exact .inr (.inl ⟨hh1,hb1⟩)
   ·exact .inr (.inr hh1)
  rcases hc with⟨hh1,hb1,c,hc⟩|⟨hh1,hb1⟩|hh1
  all_goals first|rw[show decide (s.height>=1)=true from decide_eq_true hh1,hn c hc]at h|rw[show decide (s.height>=1)=true from decide_eq_true hh1,hn0 hb1]at h|rw[show decide (s.height>=1)=false from decide_eq_false hh1]at h
 all_goals
  conv at h=>arg 2;whnf
  conv=>arg 2;whnf
  repeat' first|(refine zHk (id:=48) ?_)|apply en_n|apply zAG|apply zAA|apply zAD|apply w0|refine k1u (hd:=rfl) rfl rfl ?_|exact zCf rfl rfl|exact zCY rfl rfl|exact zHL rfl rfl|exact zGm rfl rfl|exact zAi rfl rfl|exact zAn rfl rfl|(apply aJ (hd:=rfl);(first|exact zCQ rfl|exact zCp rfl rfl rfl|exact Co_nn rfl);exact rfl;(with_reducible exact zDF);assumption;omega;exact fun _=>rfl)|apply ay (hd:=rfl)|exact zAF rfl|exact zAB rfl|exact zDB rfl zCc|exact zCK rfl zAb|exact zBD rfl zD4|exact zBS rfl|exact zAZ rfl rfl|exact zAV rfl rfl|(apply zAC;exact rfl;(with_reducible first|exact zDG|exact zB2|exact zAv|exact zCE))|(apply zAE;exact rfl;(with_reducible first|exact zAx|exact zAa|exact zAP);exact rfl;exact rfl)|refine w1 rfl rfl ?_|refine zAI rfl ?_|refine zAJ rfl ?_|apply zAK|apply eb_n
  all_goals first|omega|skip
  refine Stop.go ?_
  refine zCI ?_ h
  exact zAS (Le_all rfl) (zBF _) rfl rfl
end Go.Proofs.YtcagoomibpcdlaaGreatDoor
