/- Parts. -/
import Derived.Test.YtjcgiiedaccjpaaGreatDoorMAN
set_option maxHeartbeats 16000000
namespace Go.Proofs.YtjcgiiedaccjpaaGreatDoor
open _root_.Go.Proofs.Tryz
open Go.Sx
attribute [local irreducible] zAK Program.underlying Ylds zA3 alex zBc zBL awp zAc zBd zBi zBD zBI zBS zA5 zBT zBY zBe zBs zBN VCall
theorem zSg{fd:D}{p:Nat->Nat->Bool}{l:List Dt}(hp:∀(i k:Nat) d,l[i]?=some d->k<d.cons.length->VCall prog fd [i64 (i:Int),i64 (k:Int)] (bl (p i k)))(hl:l.length<=2000000)(hc:∀d∈l,d.cons.length<=2000000):
  zAc prog 67 [dts l,fd] (bl (zDr p 0 l).isSome):=by
 refine zAX func67 rfl ntmps67 results67 rfl ?_
 intro wb St0
 repeat' first|apply en_n|apply zAE|apply zAA|apply zAD|apply w0|apply ay (hd:=rfl)|exact zAC rfl|exact zAB rfl|exact zAo rfl zD6|apply zAI
 refine zAv (α:=Nat) (fun i=>i<=l.length/\∀(j:Nat) d,j<i->l[j]?=some d->∀k,k<d.cons.length->p j k=false) (fun i=>[(1,.d fd),(8,.d (dts l)),(9,.d (i64 (l.length:Int))),(10,.d (i64 (i:Int)))]) (fun _=>[]) (fun i=>l.length-i) 0 ⟨qAR _,fun j u h=>by omega⟩
  (zAV (Le_cons rfl (Le_cons rfl (Le_d rfl rfl (Le_all rfl)))) zAW rfl rfl) ?_
 rintro i ⟨hi1,hi2⟩
 repeat' first|apply en_n|apply zAE|apply zAA|apply zAD|apply w0|(apply aI (hd:=rfl);(first|exact zAq rfl|exact Co_bb rfl rfl rfl|exact Co_nn rfl);exact rfl;(with_reducible exact zCc);exact fun _=>rfl;rotate_left;intro v hv;rotate_right)|(apply zBF (hd:=rfl) (hro:=rfl);(with_reducible exact zLe))|apply ay (hd:=rfl)|exact zAC rfl|exact zAB rfl|exact zAg rfl zE6 rfl|exact zAo rfl zEN|exact zCs rfl rfl|exact zAH rfl zB4|exact zAJ rfl zC0 rfl rfl|(refine w0' ?_)|(apply zAl;exact rfl;exact rfl;exact rfl;(with_reducible exact zE6);exact rfl;exact rfl;exact rfl;exact rfl)|(apply zAw;exact rfl;all_goals intro hb)|apply zAI|apply zAO|apply zAM|apply zA0|apply en_e|apply eb_e|apply zAL|refine res1 rfl ?_
 ·omega
 ·obtain⟨d,hd⟩:∃d,l[i]?=some d:=⟨_,hv⟩
  have hvd:v=d:=by have h:l[i]?=some v:=hv;rw[hd]at h;injection h with h;exact h.symm
  subst hvd
  have hw:=hv;clear hv
  have hcd:=hc v (qAE hd)
  refine zAv (α:=Nat) (fun k=>k<=v.cons.length/\∀k',k'<k->p i k'=false) (fun k=>[(1,.d fd),(5,.d (i64 (i:Int))),(8,.d (dts l)),(9,.d (i64 (l.length:Int))),(10,.d (i64 (i:Int))),(17,.d (i64 (v.cons.length:Int))),(18,.d (i64 (k:Int)))]) (fun _=>[]) (fun k=>v.cons.length-k) 0 ⟨qAR _,fun j h=>by omega⟩
   (zAV (Le_cons rfl (Le_cons rfl (Le_cons rfl (Le_cons rfl (Le_cons rfl (Le_d rfl rfl (Le_all rfl))))))) zAW rfl rfl) ?_
  rintro k ⟨hk1,hk2⟩
  have hq:=fun hk=>hp i k v hd hk
  repeat' first|apply en_n|apply zAE|apply zAA|apply zAD|apply w0|(refine zDW (hq (by omega)) rfl (zAP rfl (zAP rfl zAF)))|apply ay (hd:=rfl)|exact zAC rfl|exact zAB rfl|exact zCs rfl rfl|refine zBE rfl rfl ?_|(apply zAw;exact rfl;all_goals intro hb)|(apply zBw;exact rfl;all_goals intro hb)|apply zAI|apply zAO|apply zAM|apply zA0|apply en_r|apply en_e|apply eb_n|apply eb_r|apply eb_e|apply zAL|refine res1 rfl ?_
  ·exact zBo (by rw[zHv (k:=k) hd (by omega) (fun i' d' h1 h2 k' h3=>by rw[qAU];exact hi2 i' d' h1 h2 k' h3) (fun k' h=>by rw[qAU];exact hk2 k' h) (by rw[qAU];exact hb)];rfl)
  ·omega
  ·refine⟨k+1,⟨by omega,fun k' h=>?_⟩,by omega,zAV (Le_all rfl) zAW rfl rfl⟩
   rcases qAI k' k with h1|h1
   ·exact hk2 k' h1
   ·rw[show k'=k by omega];exact hb
  ·omega
  ·refine⟨i+1,⟨by omega,fun j d h h2 k' h3=>?_⟩,by omega,zAV (Le_all rfl) zAW rfl rfl⟩
   rcases qAI j i with h1|h1
   ·exact hi2 j d h1 h2 k' h3
   ·have e:j=i:=by omega
    subst e
    rw[hd]at h2;injection h2 with h2;subst h2
    exact hk2 k' (by omega)
 ·exact zBo (by rw[zGg fun j d h k hk=>by rw[qAU];exact hi2 j d (by have:=(qAA.1 h).1;omega) h k hk];rfl)
