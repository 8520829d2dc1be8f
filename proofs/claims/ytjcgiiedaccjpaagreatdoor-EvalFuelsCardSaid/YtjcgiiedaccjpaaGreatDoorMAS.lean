/- Parts. -/
import Derived.Test.YtjcgiiedaccjpaaGreatDoorMAR
set_option maxHeartbeats 16000000
namespace Go.Proofs.YtjcgiiedaccjpaaGreatDoor
open _root_.Go.Proofs.Tryz
open Go.Sx Go.Ev
def Rn.pg(R:Rn): Pg where
 node:=fun k=>⟨(R.L.getD k ⟨0,[],0,0⟩).kind,(R.L.getD k ⟨0,[],0,0⟩).text,(R.L.getD k ⟨0,[],0,0⟩).num,(R.L.getD k ⟨0,[],0,0⟩).kids.toNat⟩
 kid:=fun k j=>((zBx R.L (k:Int)).getD j 0).toNat
 need:=fun s=>(zIH R.T (fR (zD3 R.T s)).1.toNat (fR (zD3 R.T s)).2.toNat).args.length
 name:=pidx
 deep:=R.L.length+1
 fuel:=R.fuel
theorem Rn.node_at{R:Rn}{k:Nat}{x:Nd}(h:R.L[k]?=some x): R.pg.node k=⟨x.kind,x.text,x.num,x.kids.toNat⟩:=by
 unfold Rn.pg
 simp only[qAQ,h,qBP]
theorem Rn.kid_at{R:Rn}{k:Nat}{x:Nd}{ks:List Tr}(h:At R.L k (.mk x ks)){j:Nat}(hj:j<ks.length): R.pg.kid k j=kidAt k ks j:=by
 unfold Rn.pg
 simp only[qAQ,h.kids_get hj,qBP,qAc]
def esz: Env->Nat
 | .nil=>0
 | .cons _ _ up=>esz up+1
attribute [local irreducible] zAK Program.underlying Ylds zA3 alex zBc zBL awp zAc zBd zBi zBD zBI zDI zBS zA5 zBT zBY zBe zBs zC7 zBN VCall
theorem zL7: prog.underlying 99=some (.pointer (prog.pointee 99)):=by kernel_rfl
theorem zUR(R:Rn)(s:S)(bs:List Nat)(x:List UInt8)(e0:Env): zBI prog 47 [.ptr 0 0,.d (str x),.d (encE bs e0)] (R.MB s) (encV bs (told R.pg x e0)):=by
 have hf:=zMf x
 refine zCt func47 rfl ntmps47 results47 rfl ?_
 intro wb St0
 repeat' first|apply en_n|apply zAE|apply zAA|apply zAD|apply w0|apply ay (hd:=rfl)|exact zAB rfl|apply zAI
 refine zAv (α:=Env) (fun e=>told R.pg x e=told R.pg x e0) (fun e=>[(1,.d (str x)),(2,.d (encE bs e))]) (fun _=>R.MB s) esz e0 rfl
  (zAV (Le_all rfl) (zAT rfl rfl (zAT rfl rfl zAW)) rfl rfl) ?_
 intro e he
 rw[<-he]
 cases e with
 |nil =>
  rw[show told R.pg x .nil=.prim (pidx x) []from rfl]
  rw[show encE bs .nil=.val (.pointer none)from rfl]
  generalize pidx x=q at *
  skip
  repeat' first|(apply ay (hd:=rfl);apply zCk;exact rfl;exact rfl)|apply en_n|apply zAE|apply zAA|apply zAD|apply w0|(apply zN2;exact rfl;exact rfl;with_reducible exact zL7)|(refine zAU zPR hf (CoLA rfl))|(refine zAf (cs:=biC q++[.slice []]) zMp zMk (PD_d rfl rfl zA6) rfl)|(apply zCY;exact rfl;with_reducible exact zCX)|(apply zBF (hd:=rfl) (hro:=rfl);(with_reducible exact zCO))|apply ay (hd:=rfl)|exact zAC rfl|exact zAB rfl|exact zAe rfl rfl|exact zDH rfl zCF rfl rfl rfl|(refine w0' ?_)|(apply zAl;exact rfl;exact rfl;exact rfl;(with_reducible exact zCF);exact rfl;exact rfl;exact rfl;exact rfl)|refine zAQ rfl ?_|apply zAM|apply zA0|apply en_e|apply eb_e|apply zAL|refine res1 rfl ?_
  rfl
 |cons n v up =>
  rw[show encE bs (.cons n v up)=.ref [str n,encV bs v,encE bs up]from rfl]
  obtain⟨d1,e1⟩:=zCR bs v
  skip
  repeat' first|apply en_n|apply zAE|apply zAA|apply zAD|apply w0|(apply zLs;exact rfl;exact rfl;with_reducible exact zL7)|exact zLt rfl rfl|exact zCh rfl|apply ay (hd:=rfl)|exact zAC rfl|exact zAB rfl|(apply zA1;exact rfl;(with_reducible first|exact zPs|exact zPr|exact zPq))|(apply zAR;exact rfl;(with_reducible first|exact zB0|exact zLg|exact zAr))|(apply zAw;exact rfl;all_goals intro hb)|refine zAN rfl ?_|apply zAI|apply zAO|apply zAM|apply en_r|apply eb_n|apply eb_r|apply zAL|refine res1 rfl ?_
  ·rw[show told R.pg x (.cons n v up)=v by rw[told,if_pos hb]]
  ·exact⟨up,by rw[told,if_neg hb],Nat.lt_succ_self _,zAV (Le_all rfl) (zAT rfl rfl (zAT rfl rfl zAW)) rfl rfl⟩
