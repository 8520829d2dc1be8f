/- Parts. -/
import Derived.Test.YtjcgiiedaccjpaaGreatDoorMAO
set_option maxHeartbeats 16000000
namespace Go.Proofs.YtjcgiiedaccjpaaGreatDoor
open _root_.Go.Proofs.Tryz
open Go.Sx
attribute [local irreducible] zAK Program.underlying Ylds zA3 alex zBc zBL awp zAc zBd zBi zBD zBI zBS zA5 zBT zBY zBe zBs zBN VCall
abbrev fV(l:List Dt)(s:List UInt8)(x y:Int): List Ob:=[.box [.d (dts l)],.box [.d (str s)],.box [.d (i64 x)],.box [.d (i64 y)]]
abbrev fA(fx:Nat->Option Nat)(l:List Dt)(s:List UInt8)(x y:Int): List Ob:=[.bx (fx 0) none [.d (dts l)],.bx (fx 1) none [.d (str s)],.bx (fx 2) none [.d (i64 x)],.bx (fx 3) none [.d (i64 y)]]
abbrev fP: List SV:=[.ptr 0 0,.ptr 1 0,.ptr 2 0,.ptr 3 0]
def fR(r:Option (Nat×Nat)): Int×Int:=match r with
 |some (i,k)=>(i,k)
 |none=>(0,0)
theorem zSQ{l:List Dt}{s:List UInt8}{i k:Nat}{d:Dt}{c:Ct}(hd:l[i]?=some d)(hc:d.cons[k]?=some c)(_hl:l.length<=2000000)(_hk:d.cons.length<=2000000):
  zBD prog 116 (.d (i64 (i:Int)) :: .d (i64 (k:Int))::fP) (fV l s 0 0) (.d (bl (decide (c.name=s)))) (fV l s (if c.name=s then i else 0) (if c.name=s then k else 0)):=by
 have hi:=(qAA.1 hd).1
 have hj:=(qAA.1 hc).1
 have hd':l[(i:Int).toNat]?=some d:=hd
 have hc':d.cons[(k:Int).toNat]?=some c:=hc
 refine zB3 func116 rfl ntmps116 results116 rfl rfl rfl ?_
 intro wb St0 X fx
 repeat' first|apply en_n|apply zAE|apply zAA|apply zAD|apply w0|exact zGJ rfl rfl|(apply aJ (hd:=rfl);(first|exact zAq rfl|exact Co_bb rfl rfl rfl|exact Co_nn rfl);exact rfl;(with_reducible first|exact zCc|exact zEO);assumption;omega;exact fun _=>rfl)|apply ay (hd:=rfl)|exact zAC rfl|exact zAB rfl|(apply zA1;exact rfl;(with_reducible first|exact zB4|exact zEY))|(apply zAR;exact rfl;(with_reducible first|exact zC0|exact zAr))|(apply zAJ;exact rfl;(with_reducible first|exact zE7|exact zAr);exact rfl;exact rfl)|(refine w0' ?_)|(apply zAl;exact rfl;exact rfl;exact rfl;(with_reducible exact zAd);exact rfl;exact rfl;exact rfl;exact rfl)|(apply zAw;exact rfl;all_goals intro hb)|apply zAO|apply zAM|refine zAu (by kernel_rfl) (by kernel_rfl) ?_|apply en_r
 ·rw[if_neg hb,if_neg hb]
  exact zBV (zAV (Le_d rfl (zBo (by rw[decide_eq_false hb])) Le_nil) (zAT rfl rfl (zAT rfl rfl (zAT rfl rfl (zAT rfl rfl zAW)))) rfl rfl)
 ·have hq:c.name=s:=Classical.byContradiction hb
  rw[if_pos hq,if_pos hq]
  exact zBV (zAV (Le_d rfl (zBo (by rw[decide_eq_true hq])) Le_nil) (zAT rfl rfl (zAT rfl rfl (zAT rfl rfl (zAT rfl rfl zAW)))) rfl rfl)
theorem zMU{l:List Dt}{s:List UInt8}{i k:Nat}{d:Dt}{c:Ct}(hd:l[i]?=some d)(hc:d.cons[k]?=some c): zNR l s i k=decide (c.name=s):=by
 unfold zNR;rw[zGD hd hc]
theorem zRv{l:List Dt}{s:List UInt8}(hl:l.length<=2000000)(hc:∀d∈l,d.cons.length<=2000000):
  zBD prog 67 [.d (dts l),.clo 116 [0,1,2,3]] (fV l s 0 0) (.d (bl (zD3 l s).isSome)) (fV l s (fR (zD3 l s)).1 (fR (zD3 l s)).2):=by
 refine zB3 func67 rfl ntmps67 results67 rfl rfl rfl ?_
 intro wb St0 X fx
 repeat' first|apply en_n|apply zAE|apply zAA|apply zAD|apply w0|apply ay (hd:=rfl)|exact zAC rfl|exact zAB rfl|exact zAo rfl zD6|apply zAI
 refine zAv (α:=Nat) (fun i=>i<=l.length/\∀(j:Nat) d,j<i->l[j]?=some d->∀k,k<d.cons.length->zNR l s j k=false) (fun i=>[(1,.clo 116 [0,1,2,3]),(8,.d (dts l)),(9,.d (i64 (l.length:Int))),(10,.d (i64 (i:Int)))]) (fun _=>fA fx l s 0 0) (fun i=>l.length-i) 0 ⟨qAR _,fun j u h=>by omega⟩
  (zAV (Le_cons rfl (Le_cons rfl (Le_d rfl rfl (Le_all rfl)))) (zAT rfl rfl (zAT rfl rfl (zAT rfl rfl (zAT rfl rfl zAW)))) rfl rfl) ?_
 rintro i ⟨hi1,hi2⟩
 repeat' first|apply en_n|apply zAE|apply zAA|apply zAD|apply w0|(apply aI (hd:=rfl);(first|exact zAq rfl|exact Co_bb rfl rfl rfl|exact Co_nn rfl);exact rfl;(with_reducible exact zCc);exact fun _=>rfl;rotate_left;intro v hv;rotate_right)|(apply zBF (hd:=rfl) (hro:=rfl);(with_reducible exact zLe))|apply ay (hd:=rfl)|exact zAC rfl|exact zAB rfl|exact zAg rfl zE6 rfl|exact zAo rfl zEN|exact zCs rfl rfl|exact zAH rfl zB4|exact zAJ rfl zC0 rfl rfl|(refine w0' ?_)|(apply zAl;exact rfl;exact rfl;exact rfl;(with_reducible exact zE6);exact rfl;exact rfl;exact rfl;exact rfl)|(apply zAw;exact rfl;all_goals intro hb)|apply zAI|apply zAO|apply zAM|apply zA0|apply en_e|apply eb_e
 ·omega
 ·obtain⟨d,hd⟩:∃d,l[i]?=some d:=⟨_,hv⟩
  have hvd:v=d:=by have h:l[i]?=some v:=hv;rw[hd]at h;injection h with h;exact h.symm
  subst hvd
  have hw:=hv;clear hv
  have hcd:=hc v (qAE hd)
  refine zAv (α:=Nat) (fun k=>k<=v.cons.length/\∀k',k'<k->zNR l s i k'=false) (fun k=>[(1,.clo 116 [0,1,2,3]),(5,.d (i64 (i:Int))),(8,.d (dts l)),(9,.d (i64 (l.length:Int))),(10,.d (i64 (i:Int))),(17,.d (i64 (v.cons.length:Int))),(18,.d (i64 (k:Int)))]) (fun _=>fA fx l s 0 0) (fun k=>v.cons.length-k) 0 ⟨qAR _,fun j h=>by omega⟩
   (zAV (Le_cons rfl (Le_cons rfl (Le_cons rfl (Le_cons rfl (Le_cons rfl (Le_d rfl rfl (Le_all rfl))))))) (zAT rfl rfl (zAT rfl rfl (zAT rfl rfl (zAT rfl rfl zAW)))) rfl rfl) ?_
  rintro k ⟨hk1,hk2⟩
  rcases qAI k v.cons.length with hlt|hge
  ·obtain⟨c,hcc⟩:∃c,v.cons[k]?=some c:=⟨_,qAB hlt⟩
   have hq:=zSQ (s:=s) hd hcc hl hcd
   have hi:=zMU (s:=s) hd hcc
   by_cases hn:c.name=s
   ·rw[if_pos hn,if_pos hn,decide_eq_true hn]at hq
    rw[decide_eq_true hn]at hi
    repeat' first|apply en_n|apply zAE|apply zAA|apply zAD|apply w0|exact zBh rfl rfl|exact zB7 rfl|(refine zVM [0,1,2,3] [0,1,2,3] rfl rfl zMb (hq) rfl (SArgs_all rfl) rfl rfl (by decide) rfl rfl rfl rfl rfl rfl ?_)|apply ay (hd:=rfl)|exact zAC rfl|exact zAB rfl|refine zAN rfl ?_|apply zAI|apply zAO|apply zAM|apply en_r|apply eb_r
    have hr:zD3 l s=some (i,k):=by
     have:=zHv (p:=zNR l s) (b:=0) (k:=k) hd hlt (fun i' d' h1 h2 k' h3=>by rw[qAU];exact hi2 i' d' h1 h2 k' h3) (fun k' h=>by rw[qAU];exact hk2 k' h) (by rw[qAU];exact hi)
     rw[qAU]at this;exact this
    rw[hr]
    exact zBV (zAV (Le_all rfl) (zAT rfl rfl (zAT rfl rfl (zAT rfl rfl (zAT rfl rfl zAW)))) rfl rfl)
   ·rw[if_neg hn,if_neg hn,decide_eq_false hn]at hq
    rw[decide_eq_false hn]at hi
    repeat' first|apply en_n|apply zAE|apply zAA|apply zAD|apply w0|exact zBh rfl rfl|exact zB7 rfl|(refine zVM [0,1,2,3] [0,1,2,3] rfl rfl zMb (hq) rfl (SArgs_all rfl) rfl rfl (by decide) rfl rfl rfl rfl rfl rfl ?_)|apply ay (hd:=rfl)|exact zAC rfl|exact zAB rfl|refine zBE rfl rfl ?_|refine zAN rfl ?_|refine zAQ rfl ?_|apply zAI|apply zAO|apply eb_n
    ·omega
    ·refine⟨k+1,⟨by omega,fun k' h=>?_⟩,by omega,zAV (Le_all rfl) (zAT rfl rfl (zAT rfl rfl (zAT rfl rfl (zAT rfl rfl zAW)))) rfl rfl⟩
     rcases qAI k' k with h1|h1
     ·exact hk2 k' h1
     ·rw[show k'=k by omega];exact hi
  ·have hx:¬(k:Int)<(v.cons.length:Int):=by omega
   repeat' first|apply en_n|apply zAE|apply zAA|apply zAD|apply w0|exact zCT rfl rfl|apply ay (hd:=rfl)|exact zAC rfl|refine zBE rfl rfl ?_|refine zAQ rfl ?_|apply zA0|apply en_e|apply eb_n|apply eb_e
   ·omega
   ·refine⟨i+1,⟨by omega,fun j d h h2 k' h3=>?_⟩,by omega,zAV (Le_all rfl) (zAT rfl rfl (zAT rfl rfl (zAT rfl rfl (zAT rfl rfl zAW)))) rfl rfl⟩
    rcases qAI j i with h1|h1
    ·exact hi2 j d h1 h2 k' h3
    ·have e:j=i:=by omega
     subst e
     rw[hd]at h2;injection h2 with h2;subst h2
     exact hk2 k' (by omega)
 ·have hr:zD3 l s=none:=zGg fun j d h k hk=>by rw[qAU];exact hi2 j d (by have:=(qAA.1 h).1;omega) h k hk
  rw[hr]
  exact zBV (zAV (Le_all rfl) (zAT rfl rfl (zAT rfl rfl (zAT rfl rfl (zAT rfl rfl zAW)))) rfl rfl)
theorem zLv{l:List Dt}(s:List UInt8)(hl:l.length<=2000000)(hc:∀d∈l,d.cons.length<=2000000):
  zAc prog 48 [dts l,str s] (.tup [i64 (fR (zD3 l s)).1,i64 (fR (zD3 l s)).2,bl (zD3 l s).isSome]):=by
 have hq:=zRv (s:=s) hl hc
 generalize zD3 l s=r at *
 refine zAX func48 rfl ntmps48 results48 rfl ?_
 intro wb St0
 repeat' first|apply en_n|apply zAE|apply zAA|apply zAD|apply w0|(refine zDf [0,1,2,3] zLW (hq) (SArgs_all rfl) rfl rfl (by decide) rfl rfl rfl rfl rfl rfl ?_)|refine aBox (hd:=rfl) (hro:=rfl) rfl rfl ?_|(apply zBF (hd:=rfl) (hro:=rfl);(with_reducible exact zSx))|apply ay (hd:=rfl)|exact zAC rfl|exact zAB rfl|(apply zAJ;exact rfl;(with_reducible first|exact zE7|exact zAd);exact rfl;exact rfl)|exact zQa rfl|(refine w0' ?_)|(apply zAl;exact rfl;exact rfl;exact rfl;(with_reducible exact zAd);exact rfl;exact rfl;exact rfl;exact rfl)|apply zAM|refine zAu (by kernel_rfl) (by kernel_rfl) ?_|apply zAL
 exact⟨rfl,rfl,rfl⟩
theorem zJj{η:List Ob}{σ:Sl}{x:Operand}{xs:List Operand}{f:FuncId}{ds:List D}(h:oval σ x=.clo f [])(r:CoL η σ xs ds): CoL η σ (x::xs) (.clo f []::ds):=⟨zVh h,r⟩
structure DtL(l:List Dt): Prop where
 len:l.length<=2000000
 cons:∀d∈l,d.cons.length<=2000000
 args:∀d∈l,∀c∈d.cons,c.args.length<=2000000/\∀t∈c.args,t.length<=2000000
theorem zRe{l:List Dt}{i k:Nat}{d:Dt}{c:Ct}(hd:l[i]?=some d)(hc:d.cons[k]?=some c): ∃r,zD3 l c.name=some r:=by
 cases h:zD3 l c.name with
 |some r=>exact⟨r,rfl⟩
 |none =>
  have:=zIo h i d hd k (qAA.1 hc).1
  rw[qAU,zMU hd hc,decide_eq_true rfl]at this
  cases this
theorem zNr{l:List Dt}(hL:DtL l){i k:Nat}{d:Dt}{c:Ct}(hd:l[i]?=some d)(hc:d.cons[k]?=some c): zAc prog 66 [i64 (i:Int),i64 (k:Int),.ref [dts l]] (bl (zGw l i k)):=by
 have hF:=zLv c.name hL.len hL.cons
 unfold zGw
 rw[zGD hd hc]
 obtain⟨⟨x,y⟩,hr⟩:=zRe hd hc
 rw[hr]at hF ⊢
 replace hF:zAc prog 48 [dts l,str c.name] (.tup [i64 (x:Int),i64 (y:Int),bl true]):=hF
 have hl:=hL.len
 have hk:=hL.cons d (qAE hd)
 have hi:=(qAA.1 hd).1
 have hj:=(qAA.1 hc).1
 have hd':l[(i:Int).toNat]?=some d:=hd
 have hc':d.cons[(k:Int).toNat]?=some c:=hc
 refine zAX func66 rfl ntmps66 results66 rfl ?_
 intro wb St0
 repeat' first|apply en_n|apply zAE|apply zAA|apply zAD|apply w0|refine k0u (hd:=rfl) rfl rfl ?_|exact zCm rfl zE7|(refine zAU zFh hF (CoLA rfl))|(apply aJ (hd:=rfl);(first|exact zAq rfl|exact Co_bb rfl rfl rfl|exact Co_nn rfl);exact rfl;(with_reducible first|exact zCc|exact zEO);assumption;omega;exact fun _=>rfl)|apply ay (hd:=rfl)|exact zAC rfl|exact zAB rfl|(apply zA1;exact rfl;(with_reducible first|exact zB4|exact zEY))|(apply zAR;exact rfl;(with_reducible first|exact zC0|exact zAr))|exact zGm rfl rfl|exact zAi rfl rfl|exact zAj rfl rfl|exact zAe rfl rfl|refine w1 rfl rfl ?_|(apply gD;exact rfl;exact rfl;all_goals intro hb)|apply zAM|refine zAu (by kernel_rfl) (by kernel_rfl) ?_|apply zAL|refine res1 rfl ?_
 ·refine zBo ?_
  symm
  simp only[ne_eq,decide_eq_true_eq]
  intro h;injection h with h;injection h with h1 h2;exact hb (by rw[h1])
 ·refine zBo ?_
  rw[decide_eq_decide]
  have hx:x=i:=by omega
  subst hx
  constructor
  ·intro h h2;injection h2 with h2;injection h2 with _ h2;exact h (by rw[h2])
  ·intro h h2;exact h (by rw[show y=k by omega])
