/- Parts. -/
import Derived.Test.YtjcgiiedaccjpaaGreatDoorPAR
set_option maxHeartbeats 16000000
namespace Go.Proofs.YtjcgiiedaccjpaaGreatDoor
open _root_.Go.Proofs.Tryz
open Go.Sx Go.Ev
attribute [local irreducible] zAQ Program.underlying Ylds zBJ alex zBk zBZ awp zAX FCall zBo zBR zDN zBX zEV zDB zBb zBD zBd zBj zBn zEU zBu zBP zDF vC eDs vDs
theorem zIH(R:Rn)(s:S)(n:Int): zAX prog 84 [tD R s,i64 n] (.tup [vD (s.raise n).1,tD R (s.raise n).2]):=by
 have hS:=zF6 R { s with raised:=n } 2
 rw[show (S.stop { s with raised:=n } 2)=s.raise n from rfl]at hS
 refine zBw func84 rfl ntmps84 results84 rfl ?_
 intro wb St0
 obtain⟨so,nu,te,ne,ar,k,se,en,hv,-⟩:=zED (s.raise n).1
 rw[hv]at hS ⊢
 generalize (s.raise n).2=s' at *
 repeat' first|apply en_n|apply zAE|apply zAA|apply zAD|apply w0|(refine zAv ?_)|(refine zBI ?_)|exact zBg|(with_reducible exact rfl)|(refine RV_c rfl rfl zAd rfl rfl ?_ ?_)|(refine RV_c rfl rfl zAS rfl rfl ?_ ?_)|(refine zAP zHF hS (CoLA rfl))|refine aBox (hd:=rfl) (hro:=rfl) rfl rfl ?_|(apply zA4 (hd:=rfl) (hro:=rfl);(with_reducible first|exact zBp|exact zBS))|apply ay (hd:=rfl)|exact zAC rfl|exact zAb rfl rfl|exact zAI rfl zKJ|exact zAY rfl zAS rfl rfl rfl|(refine w0' ?_)|(apply zAq;exact rfl;exact rfl;exact rfl;(with_reducible first|exact zAS|exact zAd|exact zBi);exact rfl;exact rfl;exact rfl;exact rfl)|apply zAN
 all_goals first|rfl|skip
theorem zNl(L:List (List UInt8))(x:List UInt8)(hL:L.length<=1000000): zAX prog 18 [strs L,str x] (bl (decide (x∈L))):=by
 refine zAc func18 rfl ntmps18 results18 rfl ?_
 intro wb St0
 generalize hF:decide (x∈L)=F
 repeat' first|apply en_n|apply zAE|apply zAA|apply zAD|apply w0|refine ayA rfl ?_|apply zAH
 refine zAt (α:=Nat) (fun i=>i<=L.length/\F=decide (x∈L.drop i)) (fun i=>[(0,.d (strs L)),(1,.d (str x)),(5,.d (i64 (i:Int)))]) (fun _=>[]) (fun i=>L.length-i) 0 ⟨qAO _,by rw[qAp];exact hF.symm⟩
  (zAV (Le_all rfl) zAW rfl rfl) ?_
 rintro i ⟨hi1,hi2⟩
 clear hF
 rcases qAF i L.length with hlt|hge
 case inr =>
  have hlt':¬(i:Int)<(L.length:Int):=by omega
  rw[qAa hge]at hi2
  subst hi2
  skip
  repeat' first|apply en_n|apply zAE|apply zAA|apply zAD|apply w0|refine ayA rfl ?_|refine ayQ rfl ?_|refine zAK rfl ?_|apply zAN|apply zAz|apply en_e|apply eb_e|apply zAO|refine res1 rfl ?_
  all_goals first|rfl|omega|skip
 case inl =>
  obtain⟨y,hy⟩:∃y,L[i]?=some y:=⟨_,qAB hlt⟩
  have hlt':(i:Int)<(L.length:Int):=by omega
  rw[qAW hlt]at hi2
  have hy2:L[i]=y:=by rw[qAB hlt]at hy;injection hy
  rw[hy2]at hi2
  skip
  repeat' first|apply en_n|apply zAE|apply zAA|apply zAD|apply w0|exact zHt rfl rfl|refine aJA ?_|refine ayA rfl ?_|refine ayQ rfl ?_|apply ay (hd:=rfl)|refine zBN rfl rfl ?_|(apply zA3;exact rfl;all_goals intro hb)|refine zAJ rfl ?_|apply zAH|apply zAM|apply zAN|apply en_r|apply eb_n|apply eb_r|apply zAO|refine res1 rfl ?_
  all_goals first|omega|skip
  ·rw[hi2,decide_eq_true (by rw[hb];exact qAt)]
  ·refine⟨i+1,⟨hlt,?_⟩,by omega,zAV (Le_all rfl) zAW rfl rfl⟩
   rw[hi2]
   have hb2:x≠y:=fun h=>hb h.symm
   exact decide_eq_decide.2 (by simp[hb2])
theorem zNU: zAX prog 19 [] (strs pnames):=by
 refine zAc func19 rfl ntmps19 results19 rfl ?_
 intro wb St0
 repeat' first|apply en_n|apply zAE|apply zAA|apply zAD|apply w0|(refine zS7 (n:=14) (xs:=pnames.map fun t=>.const (.string ⟨t.toArray⟩)) (ds:=pnames.map str) zBL zA6 zCq rfl rfl rfl rfl (zAL rfl (zAL rfl (zAL rfl (zAL rfl (zAL rfl (zAL rfl (zAL rfl (zAL rfl (zAL rfl (zAL rfl (zAL rfl (zAL rfl (zAL rfl (zAL rfl zAF)))))))))))))) (zCe fun _=>rfl) rfl)|refine ayA rfl ?_|apply ay (hd:=rfl)|apply zAN|apply zAO|refine res1 rfl ?_
 rfl
theorem zQv(p:Nat)(h:p<14): zCS p∈pnames:=by
 unfold zCS
 rw[qAL,qAB (show p<pnames.length from h)]
 exact qBc _
theorem zXA(x:List UInt8)(n:Int)(hx:x∈pnames)(h:(x=addT/\n=2)\/(x=subT/\n=2)\/(x=mulT/\n=2)\/(x=divT/\n=2)\/(x=modT/\n=2)\/(x=eqT/\n=2)\/(x=ltT/\n=2)\/(x=catT/\n=2)\/(x=lenT/\n=1)\/(x=refT/\n=1)\/(x=getT/\n=1)\/(x=setT/\n=2)\/(x=putT/\n=1)\/(x=sayT/\n=1)): zAX prog 27 [str x] (i64 n):=by
 have hI:=zNl pnames x dC
 rw[decide_eq_true hx]at hI
 have hN:=zNU
 clear hx
 generalize pnames=L at *
 refine zAc func27 rfl ntmps27 results27 rfl ?_
 intro wb St0
 rcases h with⟨rfl,rfl⟩|⟨rfl,rfl⟩|⟨rfl,rfl⟩|⟨rfl,rfl⟩|⟨rfl,rfl⟩|⟨rfl,rfl⟩|⟨rfl,rfl⟩|⟨rfl,rfl⟩|⟨rfl,rfl⟩|⟨rfl,rfl⟩|⟨rfl,rfl⟩|⟨rfl,rfl⟩|⟨rfl,rfl⟩|⟨rfl,rfl⟩
 all_goals
  repeat' first|apply en_n|apply zAE|apply zAA|apply zAD|apply w0|exact zDM rfl rfl rfl|(apply zDV;exact rfl;exact rfl;exact dC)|refine k0u (hd:=rfl) rfl rfl ?_|(refine zAP zJu hN zAF)|exact ycA zPS hI|refine ayA rfl ?_|apply ay (hd:=rfl)|refine w1 rfl rfl ?_|refine zAJ rfl ?_|refine zAK rfl ?_|apply zAM|apply zAN|apply en_r|apply zAO|refine res1 rfl ?_
 all_goals first|rfl|exact absurd rfl hb|exact absurd hb dC
theorem zQT(p:Nat)(h:p<14): zAX prog 27 [str (zCS p)] (i64 (pneed p)):=by
 refine zXA _ _ (zQv p h) ?_
 match p,h with
 |0,_=>exact .inl ⟨rfl,rfl⟩
 |1,_=>exact .inr (.inl ⟨rfl,rfl⟩)
 |2,_=>exact .inr (.inr (.inl ⟨rfl,rfl⟩))
 |3,_=>exact .inr (.inr (.inr (.inl ⟨rfl,rfl⟩)))
 |4,_=>exact .inr (.inr (.inr (.inr (.inl ⟨rfl,rfl⟩))))
 |5,_=>exact .inr (.inr (.inr (.inr (.inr (.inl ⟨rfl,rfl⟩)))))
 |6,_=>exact .inr (.inr (.inr (.inr (.inr (.inr (.inl ⟨rfl,rfl⟩))))))
 |7,_=>exact .inr (.inr (.inr (.inr (.inr (.inr (.inr (.inl ⟨rfl,rfl⟩)))))))
 |8,_=>exact .inr (.inr (.inr (.inr (.inr (.inr (.inr (.inr (.inl ⟨rfl,rfl⟩))))))))
 |9,_=>exact .inr (.inr (.inr (.inr (.inr (.inr (.inr (.inr (.inr (.inl ⟨rfl,rfl⟩)))))))))
 |10,_=>exact .inr (.inr (.inr (.inr (.inr (.inr (.inr (.inr (.inr (.inr (.inl ⟨rfl,rfl⟩))))))))))
 |11,_=>exact .inr (.inr (.inr (.inr (.inr (.inr (.inr (.inr (.inr (.inr (.inr (.inl ⟨rfl,rfl⟩)))))))))))
 |12,_=>exact .inr (.inr (.inr (.inr (.inr (.inr (.inr (.inr (.inr (.inr (.inr (.inr (.inl ⟨rfl,rfl⟩))))))))))))
 |13,_=>exact .inr (.inr (.inr (.inr (.inr (.inr (.inr (.inr (.inr (.inr (.inr (.inr (.inr (⟨rfl,rfl⟩)))))))))))))
