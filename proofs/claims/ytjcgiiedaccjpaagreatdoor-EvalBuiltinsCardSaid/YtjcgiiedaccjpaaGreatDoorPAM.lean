/- Parts. -/
import Derived.Test.YtjcgiiedaccjpaaGreatDoorPAL
set_option maxHeartbeats 16000000
namespace Go.Proofs.YtjcgiiedaccjpaaGreatDoor
open _root_.Go.Proofs.Tryz
open Go.Sx
attribute [local irreducible] zAQ Program.underlying Ylds zBJ alex zBk zBZ awp zAX FCall zBo zBR zBX zBb zBD zBd zBj zBn zBu zBP
theorem zYj{L:List Nd}{n:Nat}{x:Nd}{ks:List Tr}(h:At L n (.mk x ks))(h8:x.kind=8)(hc:cntK x.kind x.kids=true): ∃y,L[n+1]?=some y/\y.kind=Tr.kind1 (.mk x ks):=by
 rw[cntK,if_neg oM,if_pos oM]at hc
 have hk:=h.kidn
 have hc:=of_decide_eq_true hc
 match ks,hk with
 |[],hk=>simp at hk;omega
 |k::r,_ =>
  have h1:=(h.kid (i:=0) (k:=k) rfl).hd
  rw[zCu]at h1
  exact⟨k.hd,h1,rfl⟩
def genE(a b:Bool)(nm:Option Bool)(kp r pat:Bool)(x:Nd)(bad:Prop)[Decidable bad]: Int :=
 if kp≠pat\/r=false then 61
 else if(a=true/\W x.num≠x.num)\/(a=false/\x.num≠0)then 61
 else if(b=true/\200<x.text.length)\/(b=false/\nm=none/\x.text≠[])then 61
 else if bad then 61
 else if nm=some false then 62 else 0
theorem zU6(x:Nd)(kx:Int)(pat:Bool)(hok:okK x.kind=true):
  zFQ x kx pat=genE (numK x.kind) (decide (x.kind=2)) (if namK x.kind=true then some (zGw x.text)else if x.kind=4\/x.kind=24 then some (conF x.text)else none) (patK x.kind) (cntK x.kind x.kids) pat x (x.kind=8/\kx≠5):=by
 obtain⟨kind,text,num,kids⟩:=x
 dsimp only at *
 generalize hc:cntK kind kids=c
 unfold zFQ genE
 dsimp only
 rw[hc,hok]
 clear hc
 generalize zGw text=a1
 generalize conF text=a2
 rcases zIc hok with rfl|rfl|rfl|rfl|rfl|rfl|rfl|rfl|rfl|rfl|rfl|rfl|rfl|rfl|rfl|rfl <;> simp[numK,namK,patK]
theorem zUN(L:List Nd)(n:Nat)(x y:Nd)(kx:Int)(r nr:Bool)(pat:Bool)(kd nm:D)(hx:L[n]?=some x)(hy:x.kind=8->r=true->L[n+1]?=some y/\y.kind=kx)(hlen:n<2000000)
  (hf:zAX prog 168 [i64 x.kind] (.agg [bl false,bl false,nm,kd,bl true])) (hkd:VCall prog kd [i64 x.kids] (bl r)) (hnm:VCall prog nm [str x.text] (bl nr)) :
  zAX prog 127 [zAu L,i64 (n:Int),bl pat] (i64 (genE false false (some nr) (patK x.kind) r pat x (x.kind=8/\kx≠5))):=by
 have hp:=zHY x.kind
 have hdf:=hnm.fn
 by_cases hc:patK x.kind=pat/\r=true
 ·obtain⟨hc,hr⟩:=hc
  subst hr
  rw[hc]at hp ⊢
  have hl2:x.kind=8->n+1<L.length:=fun h8=>(qAA.1 (hy h8 rfl).1).1
  have hv2:∀v,x.kind=8->L[((n:Int)+1).toNat]?=some v->v.kind=kx:=fun v h8 hv=>by
   obtain⟨h1,h2⟩:=hy h8 rfl
   rw[show ((n:Int)+1).toNat=n+1 by omega,h1]at hv
   injection hv with hv;rw[<-hv];exact h2
  cases pat
  all_goals
   refine zAc func127 rfl ntmps127 results127 rfl ?_
   intro wb St0
   repeat' first|apply en_n|apply zAE|apply zAA|apply zAD|apply w0|refine k1u (hd:=rfl) rfl rfl ?_|exact ycA zHN hf|exact ycA zEz hp|(refine zE8 hkd rfl (zAL rfl zAF))|(refine zE8 hnm rfl (zAL rfl zAF))|(refine zZA rfl hdf rfl fy_s)|(refine zWH rfl hdf rfl fy_s)|(apply zHC;exact rfl;exact rfl;with_reducible exact zIM)|refine aJA ?_|(apply aI (hd:=rfl);(first|exact zAr rfl|exact Co_bb rfl rfl rfl|exact Co_nn rfl);exact rfl;(with_reducible exact zAe);exact fun _=>rfl;rotate_left;intro v hv;rotate_right)|refine aAlA ?_|refine ayA rfl ?_|apply ay (hd:=rfl)|exact zDz rfl rfl|exact zEp rfl rfl|refine zBN rfl rfl ?_|refine w1 rfl rfl ?_|refine k1 (hd:=rfl) rfl rfl ?_|(apply gD;exact rfl;exact rfl;all_goals intro hb)|(refine w0' ?_)|refine aStA ?_|(apply zA3;exact rfl;all_goals intro hb)|refine zAK rfl ?_|(apply zCd;exact rfl;all_goals intro hb)|apply zAH|apply zAM|apply zAN|refine awDA ?_|apply en_r|apply eb_n|apply eb_r|apply zAO|refine res1 rfl ?_
  all_goals try omega
  all_goals try (have:=hl2 ‹_›;omega)
  all_goals try refine zCm ?_
  all_goals first
   |(simp_all [genE];done)
   |(rename_i v hv hb'
     have:=hv2 v (by assumption) hv
     simp_all [genE];done)
   |skip
  all_goals skip
 ·have hz:genE false false (some nr) (patK x.kind) r pat x (x.kind=8/\kx≠5)=61:=by
   rw[genE,if_pos]
   by_cases c:patK x.kind=pat
   ·exact .inr (by cases r with
     |false=>rfl
     |true=>exact absurd ⟨c,rfl⟩ hc)
   ·exact .inl c
  rw[hz]
  have hpp:=hp
  generalize patK x.kind=kp at *
  cases kp <;> cases pat <;> cases r
  all_goals first
   |exact absurd ⟨rfl,rfl⟩ hc
   |skip
  all_goals
   refine zAc func127 rfl ntmps127 results127 rfl ?_
   intro wb St0
   exact yL
theorem zW6(L:List Nd)(n:Nat)(x:Nd)(a b r:Bool)(pat:Bool)(kd:D)(hx:L[n]?=some x)(h8:x.kind≠8)(hab:a=false\/b=false)
  (hf:zAX prog 168 [i64 x.kind] (.agg [bl a,bl b,.val .nilFunc,kd,bl true])) (hkd:VCall prog kd [i64 x.kids] (bl r)) :
  zAX prog 127 [zAu L,i64 (n:Int),bl pat] (i64 (genE a b none (patK x.kind) r pat x False)):=by
 have hp:=zHY x.kind
 have hW:=zF7 x.num
 have hdf:dfn (.val .nilFunc)=some false:=rfl
 by_cases hc:patK x.kind=pat/\r=true
 ·obtain⟨hc,hr⟩:=hc
  subst hr
  rw[hc]at hp ⊢
  cases pat <;> cases a <;> cases b
  all_goals first
   |(exfalso;rcases hab with h|h <;> cases h;done)
   |skip
  all_goals
   refine zAc func127 rfl ntmps127 results127 rfl ?_
   intro wb St0
   repeat' first|apply en_n|apply zAE|apply zAA|apply zAD|apply w0|refine k1u (hd:=rfl) rfl rfl ?_|(apply zDK;exact rfl;with_reducible exact ustr)|exact zFL rfl rfl|exact ycA zHN hf|exact ycA zEz hp|(refine zE8 hkd rfl (zAL rfl zAF))|exact ycA zGF hW|(refine zZA rfl hdf rfl fy_s)|(refine zWH rfl hdf rfl fy_s)|(apply zHC;exact rfl;exact rfl;with_reducible exact zIM)|refine aJA ?_|(apply aI (hd:=rfl);(first|exact zAr rfl|exact Co_bb rfl rfl rfl|exact Co_nn rfl);exact rfl;(with_reducible exact zAe);exact fun _=>rfl;rotate_left;intro v hv;rotate_right)|refine aAlA ?_|refine ayA rfl ?_|refine ayQ rfl ?_|apply ay (hd:=rfl)|exact zF4 rfl rfl|exact zEp rfl rfl|refine zBN rfl rfl ?_|refine w1 rfl rfl ?_|refine k1 (hd:=rfl) rfl rfl ?_|(refine w0' ?_)|refine aStA ?_|(apply zA3;exact rfl;all_goals intro hb)|refine zAJ rfl ?_|refine zAK rfl ?_|apply zAH|apply zAM|apply zAN|refine awDA ?_|apply en_r|apply eb_n|apply eb_r|apply zAO|refine res1 rfl ?_
  all_goals try (exfalso;omega)
  all_goals refine zCm ?_
  all_goals first
   |(simp_all [genE];done)
   |(simp_all [genE];omega)
   |skip
 ·have hz:genE a b none (patK x.kind) r pat x False=61:=by
   rw[genE,if_pos]
   by_cases c:patK x.kind=pat
   ·exact .inr (by cases r with
     |false=>rfl
     |true=>exact absurd ⟨c,rfl⟩ hc)
   ·exact .inl c
  rw[hz]
  have hpp:=hp
  generalize patK x.kind=kp at *
  cases kp <;> cases pat <;> cases r
  all_goals first
   |exact absurd ⟨rfl,rfl⟩ hc
   |skip
  all_goals
   refine zAc func127 rfl ntmps127 results127 rfl ?_
   intro wb St0
   exact yL
theorem zZr(L:List Nd)(n:Nat)(x:Nd)(ks:List Tr)(h:At L n (.mk x ks))(pat:Bool)(hL:L.length<=2000000):
  zAX prog 127 [zAu L,i64 (n:Int),bl pat] (i64 (zFQ x (Tr.kind1 (.mk x ks)) pat)):=by
 have hx:=h.here
 have hlen:=h.len
 have hsz:=zDy (.mk x ks)
 have hf:=zVD x.kind
 cases hok:okK x.kind with
 |false =>
  have hp:=zHY x.kind
  rw[zXf,if_neg (by rw[hok];decide)]at hf
  have e:zFQ x (Tr.kind1 (.mk x ks)) pat=61:=by rw[zFQ,if_pos (.inl hok)]
  rw[e]
  refine zAc func127 rfl ntmps127 results127 rfl ?_
  intro wb St0
  repeat' first|apply en_n|apply zAE|apply zAA|apply zAD|apply w0|refine k0u (hd:=rfl) rfl rfl ?_|exact ycA zHN hf|refine aJA ?_|refine aAlA ?_|refine ayA rfl ?_|apply ay (hd:=rfl)|(refine w0' ?_)|refine aStA ?_|refine zAJ rfl ?_|apply zAH|apply zAN|apply en_r|apply eb_r|apply zAO|refine res1 rfl ?_
  all_goals rfl
 |true =>
  have hkd:=zUZ x.kind x.kids hok
  rw[zXf,if_pos hok]at hf
  rw[zU6 x _ pat hok]
  by_cases hn:namK x.kind=true
  ·have ha:numK x.kind=false:=by
    have:=of_decide_eq_true hn;rw[numK,decide_eq_false_iff_not];omega
   have hb:decide (x.kind=2)=false:=by
    have:=of_decide_eq_true hn;rw[decide_eq_false_iff_not];omega
   rw[if_pos hn,ha,hb]
   rw[ha,hb,zQ0,if_pos hn]at hf
   obtain⟨y,hy⟩:∃y:Nd,(x.kind=8->cntK x.kind x.kids=true->L[n+1]?=some y/\y.kind=Tr.kind1 (.mk x ks)):=by
    by_cases hc:x.kind=8/\cntK x.kind x.kids=true
    ·obtain⟨y,hy⟩:=zYj h hc.1 hc.2
     exact⟨y,fun _ _=>hy⟩
    ·exact⟨x,fun a b=>absurd ⟨a,b⟩ hc⟩
   exact zUN L n x y _ _ _ pat _ _ hx hy oM hf hkd ⟨_,_,rfl,zMq,zQp x.text⟩
  ·by_cases hn2:x.kind=4\/x.kind=24
   ·have ha:numK x.kind=false:=by rw[numK,decide_eq_false_iff_not];omega
    have hb:decide (x.kind=2)=false:=by rw[decide_eq_false_iff_not];omega
    rw[if_neg hn,if_pos hn2,ha,hb]
    rw[ha,hb,zQ0,if_neg hn,if_pos hn2]at hf
    exact zUN L n x x _ _ _ pat _ _ hx (fun h8=>by omega) oM hf hkd ⟨_,_,rfl,zMr,zPh x.text⟩
   ·have h8:x.kind≠8:=fun c=>hn (by rw[namK,decide_eq_true_eq];omega)
    rw[if_neg hn,if_neg hn2]
    rw[zQ0,if_neg hn,if_neg hn2]at hf
    have e:genE (numK x.kind) (decide (x.kind=2)) none (patK x.kind) (cntK x.kind x.kids) pat x (x.kind=8/\Tr.kind1 (.mk x ks)≠5)=genE (numK x.kind) (decide (x.kind=2)) none (patK x.kind) (cntK x.kind x.kids) pat x False:=by
     simp[genE,h8]
    rw[e]
    refine zW6 L n x _ _ _ pat _ hx h8 ?_ hf hkd
    by_cases c:x.kind=2
    ·exact .inl (by rw[numK,decide_eq_false_iff_not];omega)
    ·exact .inr (decide_eq_false c)
