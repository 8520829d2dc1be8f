/- Parts. -/
import Derived.Test.YtjcgiiedaccjpaaGreatDoorMAX
set_option maxHeartbeats 16000000
namespace Go.Proofs.YtjcgiiedaccjpaaGreatDoor
open _root_.Go.Proofs.Tryz
open Go.Sx
attribute [local irreducible] zAK Program.underlying Ylds zA3 alex zBc zBL awp zAc zBd zBi zBD zBI zBS zA5 zBT zBY zBe zBs zBN
theorem zUc{L:List Nd}{n:Nat}{x:Nd}{ks:List Tr}(h:At L n (.mk x ks))(h8:x.kind=8)(hc:cntK x.kind x.kids=true): ∃y,L[n+1]?=some y/\y.kind=Tr.kind1 (.mk x ks):=by
 rw[cntK,if_neg (by omega),if_pos (by omega)]at hc
 have hk:=h.kidn
 have hc:=of_decide_eq_true hc
 match ks,hk with
 |[],hk=>simp at hk;omega
 |k::r,_ =>
  have h1:=(h.kid (i:=0) (k:=k) rfl).hd
  rw[zCV]at h1
  exact⟨k.hd,h1,rfl⟩
def genE(a b:Bool)(nm:Option Bool)(kp r pat:Bool)(x:Nd)(bad:Prop)[Decidable bad]: Int :=
 if kp≠pat\/r=false then 61
 else if(a=true/\W x.num≠x.num)\/(a=false/\x.num≠0)then 61
 else if(b=true/\200<x.text.length)\/(b=false/\nm=none/\x.text≠[])then 61
 else if bad then 61
 else if nm=some false then 62 else 0
theorem zTj(x:Nd)(kx:Int)(pat:Bool)(hok:okK x.kind=true):
  zE2 x kx pat=genE (numK x.kind) (decide (x.kind=2)) (if namK x.kind=true then some (zNO x.text)else if x.kind=4\/x.kind=24 then some (conF x.text)else none) (patK x.kind) (cntK x.kind x.kids) pat x (x.kind=8/\kx≠5):=by
 obtain⟨kind,text,num,kids⟩:=x
 dsimp only at *
 generalize hc:cntK kind kids=c
 unfold zE2 genE
 dsimp only
 rw[hc,hok]
 clear hc
 generalize zNO text=a1
 generalize conF text=a2
 rcases zJ4 hok with rfl|rfl|rfl|rfl|rfl|rfl|rfl|rfl|rfl|rfl|rfl|rfl|rfl|rfl|rfl|rfl <;> simp[numK,namK,patK]
theorem zOw(L:List Nd)(n:Nat)(x y:Nd)(kx:Int)(r nr:Bool)(pat:Bool)(kd nm:D)(hx:L[n]?=some x)(hy:x.kind=8->r=true->L[n+1]?=some y/\y.kind=kx)(hlen:n<2000000)
  (hf:zAc prog 168 [i64 x.kind] (.agg [bl false,bl false,nm,kd,bl true])) (hkd:VCall prog kd [i64 x.kids] (bl r)) (hnm:VCall prog nm [str x.text] (bl nr)) :
  zAc prog 127 [zAm L,i64 (n:Int),bl pat] (i64 (genE false false (some nr) (patK x.kind) r pat x (x.kind=8/\kx≠5))):=by
 have hp:=zFG x.kind
 have hdf:=hnm.fn
 by_cases hc:patK x.kind=pat/\r=true
 ·obtain⟨hc,hr⟩:=hc
  subst hr
  rw[hc]at hp ⊢
  have hl2:x.kind=8->n+1<L.length:=fun h8=>(qAA.1 (hy h8 rfl).1).1
  have hv2:∀v,x.kind=8->L[((n:Int)+1).toNat]?=some v->v.kind=kx:=fun v h8 hv=>by
   obtain⟨h1,h2⟩:=hy h8 rfl
   rw[show ((n:Int)+1).toNat=n+1 by omega,h1]at hv
   injection hv with hv;rw[<-hv];exact h2
  cases pat
  all_goals
   refine zAX func127 rfl ntmps127 results127 rfl ?_
   intro wb St0
   repeat' first|apply en_n|apply zAE|apply zAA|apply zAD|apply w0|refine k1u (hd:=rfl) rfl rfl ?_|(refine zAU zE4 hf (CoLA rfl))|(refine zAU zDQ hp (CoLA rfl))|(refine zDW hkd rfl (zAP rfl zAF))|(refine zDW hnm rfl (zAP rfl zAF))|(refine zSq rfl hdf rfl fy_s)|(refine zQZ rfl hdf rfl fy_s)|(apply zM6;exact rfl;exact rfl;with_reducible exact zON)|(apply aJ (hd:=rfl);(first|exact zAq rfl|exact Co_bb rfl rfl rfl|exact Co_nn rfl);exact rfl;(with_reducible exact zAa);assumption;omega;exact fun _=>rfl)|(apply aI (hd:=rfl);(first|exact zAq rfl|exact Co_bb rfl rfl rfl|exact Co_nn rfl);exact rfl;(with_reducible exact zAa);exact fun _=>rfl;rotate_left;intro v hv;rotate_right)|(apply zBF (hd:=rfl) (hro:=rfl);(with_reducible first|exact zDL|exact zAx))|apply ay (hd:=rfl)|exact zAC rfl|exact zAB rfl|exact zA1 rfl fn_0|exact zAR rfl zAp|exact zAg rfl zAZ rfl|exact zEA rfl rfl|exact zGm rfl rfl|refine zBE rfl rfl ?_|exact zBX rfl|exact zAi rfl rfl|exact zAj rfl rfl|(apply zAH;exact rfl;(with_reducible first|exact ff_0|exact ff_1|exact ff_2|exact ff_3|exact ff_4|exact fn_0|exact fn_1|exact fn_2|exact fn_3))|(apply zAJ;exact rfl;(with_reducible first|exact zSU|exact zMA|exact zAd|exact zAp|exact zCn|exact zAr|exact zFr);exact rfl;exact rfl)|refine w1 rfl rfl ?_|refine k1 (hd:=rfl) rfl rfl ?_|(apply gD;exact rfl;exact rfl;all_goals intro hb)|(refine w0' ?_)|(apply zAl;exact rfl;exact rfl;exact rfl;(with_reducible first|exact zEg|exact zAZ);exact rfl;exact rfl;exact rfl;exact rfl)|(apply zAw;exact rfl;all_goals intro hb)|refine zAQ rfl ?_|(apply zBw;exact rfl;all_goals intro hb)|apply zAI|apply zAO|apply zAM|refine zAu (by kernel_rfl) (by kernel_rfl) ?_|apply en_r|apply eb_n|apply eb_r|apply zAL|refine res1 rfl ?_
  all_goals try omega
  all_goals try (have:=hl2 ‹_›;omega)
  all_goals try refine zCW ?_
  all_goals first
   |(simp_all [genE];done)
   |(rename_i v hv hb'
     have:=hv2 v (by assumption) hv
     simp_all [genE];done)
   |skip
  all_goals skip
 ·have hz:genE false false (some nr) (patK x.kind) r pat x (x.kind=8/\kx≠5)=61:=by
   rw[genE,if_pos]
   by_cases c:patK x.kind=pat
   ·exact .inr (by cases r with
     |false=>rfl
     |true=>exact absurd ⟨c,rfl⟩ hc)
   ·exact .inl c
  rw[hz]
  have hpp:=hp
  generalize patK x.kind=kp at *
  cases kp <;> cases pat <;> cases r
  all_goals first
   |exact absurd ⟨rfl,rfl⟩ hc
   |skip
  all_goals
   refine zAX func127 rfl ntmps127 results127 rfl ?_
   intro wb St0
   exact yM
theorem zRA(L:List Nd)(n:Nat)(x:Nd)(a b r:Bool)(pat:Bool)(kd:D)(hx:L[n]?=some x)(h8:x.kind≠8)(hab:a=false\/b=false)
  (hf:zAc prog 168 [i64 x.kind] (.agg [bl a,bl b,.val .nilFunc,kd,bl true])) (hkd:VCall prog kd [i64 x.kids] (bl r)) :
  zAc prog 127 [zAm L,i64 (n:Int),bl pat] (i64 (genE a b none (patK x.kind) r pat x False)):=by
 have hp:=zFG x.kind
 have hW:=zEE x.num
 have hdf:dfn (.val .nilFunc)=some false:=rfl
 by_cases hc:patK x.kind=pat/\r=true
 ·obtain⟨hc,hr⟩:=hc
  subst hr
  rw[hc]at hp ⊢
  cases pat <;> cases a <;> cases b
  all_goals first
   |(exfalso;rcases hab with h|h <;> cases h;done)
   |skip
  all_goals
   refine zAX func127 rfl ntmps127 results127 rfl ?_
   intro wb St0
   repeat' first|apply en_n|apply zAE|apply zAA|apply zAD|apply w0|refine k1u (hd:=rfl) rfl rfl ?_|exact zBU rfl rfl|exact zBW rfl rfl|exact zCz rfl rfl|(apply zC1;exact rfl;with_reducible exact ustr)|exact zGJ rfl rfl|(refine zAU zE4 hf (CoLA rfl))|(refine zAU zDQ hp (CoLA rfl))|(refine zDW hkd rfl (zAP rfl zAF))|(refine zAU zEJ hW (CoLA rfl))|(refine zSq rfl hdf rfl fy_s)|(refine zQZ rfl hdf rfl fy_s)|(apply zM6;exact rfl;exact rfl;with_reducible exact zON)|(apply aJ (hd:=rfl);(first|exact zAq rfl|exact Co_bb rfl rfl rfl|exact Co_nn rfl);exact rfl;(with_reducible exact zAa);assumption;omega;exact fun _=>rfl)|(apply aI (hd:=rfl);(first|exact zAq rfl|exact Co_bb rfl rfl rfl|exact Co_nn rfl);exact rfl;(with_reducible exact zAa);exact fun _=>rfl;rotate_left;intro v hv;rotate_right)|(apply zBF (hd:=rfl) (hro:=rfl);(with_reducible first|exact zDL|exact zAx))|apply ay (hd:=rfl)|exact zAC rfl|exact zAB rfl|exact zA1 rfl fn_0|exact zAR rfl zAp|exact zAg rfl zAZ rfl|exact zGL rfl rfl|exact zGm rfl rfl|refine zBE rfl rfl ?_|exact zBX rfl|exact zAi rfl rfl|exact zAj rfl rfl|(apply zAH;exact rfl;(with_reducible first|exact ff_0|exact ff_1|exact ff_2|exact ff_3|exact ff_4|exact fn_0|exact fn_1|exact fn_2|exact fn_3))|(apply zAJ;exact rfl;(with_reducible first|exact zSU|exact zMA|exact zAd|exact zAp|exact zCn|exact zAr|exact zFr);exact rfl;exact rfl)|refine w1 rfl rfl ?_|refine k1 (hd:=rfl) rfl rfl ?_|(refine w0' ?_)|(apply zAl;exact rfl;exact rfl;exact rfl;(with_reducible first|exact zEg|exact zAZ);exact rfl;exact rfl;exact rfl;exact rfl)|(apply zAw;exact rfl;all_goals intro hb)|refine zAN rfl ?_|refine zAQ rfl ?_|apply zAI|apply zAO|apply zAM|refine zAu (by kernel_rfl) (by kernel_rfl) ?_|apply en_r|apply eb_n|apply eb_r|apply zAL|refine res1 rfl ?_
  all_goals try (exfalso;omega)
  all_goals refine zCW ?_
  all_goals first
   |(simp_all [genE];done)
   |(simp_all [genE];omega)
   |skip
 ·have hz:genE a b none (patK x.kind) r pat x False=61:=by
   rw[genE,if_pos]
   by_cases c:patK x.kind=pat
   ·exact .inr (by cases r with
     |false=>rfl
     |true=>exact absurd ⟨c,rfl⟩ hc)
   ·exact .inl c
  rw[hz]
  have hpp:=hp
  generalize patK x.kind=kp at *
  cases kp <;> cases pat <;> cases r
  all_goals first
   |exact absurd ⟨rfl,rfl⟩ hc
   |skip
  all_goals
   refine zAX func127 rfl ntmps127 results127 rfl ?_
   intro wb St0
   exact yM
theorem zTF(L:List Nd)(n:Nat)(x:Nd)(ks:List Tr)(h:At L n (.mk x ks))(pat:Bool)(hL:L.length<=2000000):
  zAc prog 127 [zAm L,i64 (n:Int),bl pat] (i64 (zE2 x (Tr.kind1 (.mk x ks)) pat)):=by
 have hx:=h.here
 have hlen:=h.len
 have hsz:=zFs (.mk x ks)
 have hf:=zPd x.kind
 cases hok:okK x.kind with
 |false =>
  have hp:=zFG x.kind
  rw[zRb,if_neg (by rw[hok];decide)]at hf
  have e:zE2 x (Tr.kind1 (.mk x ks)) pat=61:=by rw[zE2,if_pos (.inl hok)]
  rw[e]
  refine zAX func127 rfl ntmps127 results127 rfl ?_
  intro wb St0
  repeat' first|apply en_n|apply zAE|apply zAA|apply zAD|apply w0|refine k0u (hd:=rfl) rfl rfl ?_|(refine zAU zE4 hf (CoLA rfl))|(apply aJ (hd:=rfl);(first|exact zAq rfl|exact Co_bb rfl rfl rfl|exact Co_nn rfl);exact rfl;(with_reducible exact zAa);assumption;omega;exact fun _=>rfl)|(apply zBF (hd:=rfl) (hro:=rfl);(with_reducible first|exact zDL|exact zAx))|apply ay (hd:=rfl)|exact zAC rfl|exact zAB rfl|exact zAg rfl zAZ rfl|exact zBX rfl|exact zAi rfl rfl|(apply zAH;exact rfl;(with_reducible first|exact ff_4|exact fn_0))|(apply zAJ;exact rfl;(with_reducible first|exact zAp|exact zFr);exact rfl;exact rfl)|(refine w0' ?_)|(apply zAl;exact rfl;exact rfl;exact rfl;(with_reducible first|exact zEg|exact zAZ);exact rfl;exact rfl;exact rfl;exact rfl)|refine zAN rfl ?_|apply zAI|apply zAM|apply en_r|apply eb_r|apply zAL|refine res1 rfl ?_
  all_goals rfl
 |true =>
  have hkd:=zPB x.kind x.kids hok
  rw[zRb,if_pos hok]at hf
  rw[zTj x _ pat hok]
  by_cases hn:namK x.kind=true
  ·have ha:numK x.kind=false:=by
    have:=of_decide_eq_true hn;rw[numK,decide_eq_false_iff_not];omega
   have hb:decide (x.kind=2)=false:=by
    have:=of_decide_eq_true hn;rw[decide_eq_false_iff_not];omega
   rw[if_pos hn,ha,hb]
   rw[ha,hb,zMP,if_pos hn]at hf
   obtain⟨y,hy⟩:∃y:Nd,(x.kind=8->cntK x.kind x.kids=true->L[n+1]?=some y/\y.kind=Tr.kind1 (.mk x ks)):=by
    by_cases hc:x.kind=8/\cntK x.kind x.kids=true
    ·obtain⟨y,hy⟩:=zUc h hc.1 hc.2
     exact⟨y,fun _ _=>hy⟩
    ·exact⟨x,fun a b=>absurd ⟨a,b⟩ hc⟩
   exact zOw L n x y _ _ _ pat _ _ hx hy (by omega) hf hkd ⟨_,_,rfl,zRP,zQ1 x.text⟩
  ·by_cases hn2:x.kind=4\/x.kind=24
   ·have ha:numK x.kind=false:=by rw[numK,decide_eq_false_iff_not];omega
    have hb:decide (x.kind=2)=false:=by rw[decide_eq_false_iff_not];omega
    rw[if_neg hn,if_pos hn2,ha,hb]
    rw[ha,hb,zMP,if_neg hn,if_pos hn2]at hf
    exact zOw L n x x _ _ _ pat _ _ hx (fun h8=>by omega) (by omega) hf hkd ⟨_,_,rfl,zTa,zTC x.text⟩
   ·have h8:x.kind≠8:=fun c=>hn (by rw[namK,decide_eq_true_eq];omega)
    rw[if_neg hn,if_neg hn2]
    rw[zMP,if_neg hn,if_neg hn2]at hf
    have e:genE (numK x.kind) (decide (x.kind=2)) none (patK x.kind) (cntK x.kind x.kids) pat x (x.kind=8/\Tr.kind1 (.mk x ks)≠5)=genE (numK x.kind) (decide (x.kind=2)) none (patK x.kind) (cntK x.kind x.kids) pat x False:=by
     simp[genE,h8]
    rw[e]
    refine zRA L n x _ _ _ pat _ hx h8 ?_ hf hkd
    by_cases c:x.kind=2
    ·exact .inl (by rw[numK,decide_eq_false_iff_not];omega)
    ·exact .inr (decide_eq_false c)
