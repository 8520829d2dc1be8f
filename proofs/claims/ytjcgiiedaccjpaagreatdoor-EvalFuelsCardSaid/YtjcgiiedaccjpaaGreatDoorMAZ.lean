/- Parts. -/
import Derived.Test.YtjcgiiedaccjpaaGreatDoorMAX
set_option maxHeartbeats 16000000
namespace Go.Proofs.YtjcgiiedaccjpaaGreatDoor
open _root_.Go.Proofs.Tryz
open Go.Sx
theorem zTc: zAK prog 131=true:=by kernel_rfl
theorem zNV: zAK prog 132=true:=by kernel_rfl
theorem zOg{C:Ctx}{σ:Sl}{η:List Ob}{g:Gh}{a:Act}{w w':World}(h:AbsG C g σ η a w){id e sz:Nat}{xs:List D}{o':Ob}(hid:η[id]?=some (.buf true e sz xs))(hro:C.ro<=id)
  (os:w'.os=w.os) (tape:w'.tape=w.tape) (output:w'.output=w.output) (size:w.heap.size<=w'.heap.size) (heap:∀k,k<w.heap.size->g.blk id≠some k->w'.heap[k]?=w.heap[k]?) (ok:ObOk g w' id o') :
  AbsG C g σ (η.set id o') a w':=by
 have hidl:id<η.length:=(qAA.1 hid).1
 obtain⟨o1,o2,o3,o4,o5⟩:=h.inv.ob id _ hid
 have hst:∀b o,g.St b o->g.blk id≠some b:=fun b o ho hb=>by
  rcases o5 with⟨h1,_⟩|⟨b',us,h1,_,_,_,_,h3⟩
  ·rw[h1]at hb;cases hb
  ·rw[h1]at hb;injection hb with hb;subst hb
   exact absurd ((h3 o).1 ho).1 (by simp)
 have kp:Keep g.St w g.St w':=⟨fun _ _ h=>h,fun c o u hc hu=>(World.cell?_of_block (a:=⟨c,o,none⟩) (heap c (h.inv.st c o hc) (hst c o hc))).trans hu,fun c hc=>heap c (h.inv.st c 0 (hc 0)) (hst c 0 (hc 0))⟩
 have rk:∀{v:Value} {s:SV},RepS g w v s->RepS g w' v s:=fun r=>r.ext kp (fun _ _=>⟨rfl,rfl,rfl⟩) (qAM _)
 refine⟨h.defers,h.size,⟨by rw[qAo];exact h.inv.n,fun i c hc=>qAV (h.inv.lt i c hc) size,h.inv.dead,h.inv.inj,fun i o ho=>?_,fun c o hc=>qAV (h.inv.st c o hc) size,h.inv.gl.keep kp⟩,os.trans h.os,tape.trans h.tape,output.trans h.output,qAi h.wsize size,fun k hk hx=>?_,h.keep.trans kp,h.new,h.own,fun t=>rk (h.rep t)⟩
 ·rw[qAb]at ho
  split at ho
  ·rename_i hii;subst hii
   injection ho with ho;subst ho;exact ok
  ·rename_i hii
   exact(h.inv.ob i o ho).ext kp (fun _ _=>⟨rfl,rfl,rfl⟩) (qAM _) (by rw[h.inv.n];exact(qAA.1 ho).1) (fun c hcb=>⟨heap c (h.inv.lt i c hcb) (fun e=>hii (h.inv.inj id i c e hcb)),fun _=>Iff.rfl⟩)
 ·rw[heap k (qAV hk h.wsize) (fun e=>?_)]
  ·exact h.heap k hk hx
  ·rcases h.own id k e hro with h1|h1
   ·omega
   ·exact hx h1
theorem zVI{C:Ctx}{ops:Array Oper}{rest:List Oper}{K:Sl->List Ob->Prop}{σ:Sl}{η:List Ob}{d:Nat}{ty:TypeId}{pos:String}{after:Array Edge}{gd:Option (Nat×Bool)}{ts:Array TypeId}{x:Operand}{id n e:Nat}{L:List (List UInt8)}(hP:C.P=prog)
  (hx:oval σ x=.buf id n) (ho:η[id]?=some (.buf true e 1 (L.map str))) (hn:n=L.length) (hd:Nat.blt d C.N=true) (hro:Nat.ble C.ro id=true) (hbd:L.length<=2000000)
  (h:alex C false ops rest K ((d,.top)::σ) (η.set id (.buf true e 1 ((srtT L).map str)))) :
  zA3 C false ops ⟨some d,.call ⟨.value (.func 131), #[x],ts⟩,ty,pos,after,gd⟩ rest K σ η:=by
 intro Q hQ a w ⟨g,hg⟩ K' hK'
 have e1:=hg.eval x;rw[hx]at e1
 obtain⟨_,e1⟩:=e1
 rw[hn]at e1
 unfold Oper.wp
 have hrun:(execOp a.eval ⟨some d,.call ⟨.value (.func 131), #[x],ts⟩,ty,pos,after,gd⟩).run C.P w=.ok (.enter 131 #[a.eval x]) w:=by
  simp only[execOp,resolve,Act.eval,Deferred.ofValue,invoke,Sem.run_bind,Sem.run_pure,Result.andThen_ok,qAv,qBF,Array.append_empty]
  rw[hP]
  exact zCQ zTc
 rw[hrun,Oper.upon_enter,e1,hP]
 refine(zLF g w id e L hbd (hg.inv.ob id _ ho) hg.inv.st).mono fun e' w' ⟨he,q1,q2,q3,q4,q5,q6⟩=>?_
 subst he
 have h1:=zOg hg ho (qAH hro) q1 q2 q3 q4 q5 q6
 exact hK' _ _ (h Q hQ _ w' ⟨g,h1.put (d:=some d) (s:=.top) hd trivial⟩)
def cmpT(L:List (List UInt8)): List (List UInt8):=Go.Lib.compact L++List.replicate (L.length-(Go.Lib.compact L).length) []
theorem zQX{C:Ctx}{ops:Array Oper}{rest:List Oper}{K:Sl->List Ob->Prop}{σ:Sl}{η:List Ob}{d:Nat}{ty:TypeId}{pos:String}{after:Array Edge}{gd:Option (Nat×Bool)}{ts:Array TypeId}{x:Operand}{id n e:Nat}{L:List (List UInt8)}(hP:C.P=prog)
  (hx:oval σ x=.buf id n) (ho:η[id]?=some (.buf true e 1 (L.map str))) (hn:n=L.length) (hd:Nat.blt d C.N=true) (hro:Nat.ble C.ro id=true) (hbd:L.length<=2000000)
  (h:alex C false ops rest K ((d,.buf id (Go.Lib.compact L).length)::σ) (η.set id (.buf true e 1 ((cmpT L).map str)))) :
  zA3 C false ops ⟨some d,.call ⟨.value (.func 132), #[x],ts⟩,ty,pos,after,gd⟩ rest K σ η:=by
 intro Q hQ a w ⟨g,hg⟩ K' hK'
 have e1:=hg.eval x;rw[hx]at e1
 obtain⟨hid,e1⟩:=e1
 rw[hn]at e1
 unfold Oper.wp
 have hrun:(execOp a.eval ⟨some d,.call ⟨.value (.func 132), #[x],ts⟩,ty,pos,after,gd⟩).run C.P w=.ok (.enter 132 #[a.eval x]) w:=by
  simp only[execOp,resolve,Act.eval,Deferred.ofValue,invoke,Sem.run_bind,Sem.run_pure,Result.andThen_ok,qAv,qBF,Array.append_empty]
  rw[hP]
  exact zCQ zNV
 rw[hrun,Oper.upon_enter,e1,hP]
 cases hb:g.blk id with
 |none =>
  have hL:L=[]:=by
   obtain⟨o1,o2,o3,o4,o5⟩:=hg.inv.ob id _ ho
   rcases o5 with⟨_,o5⟩|⟨b',us,hb',_⟩
   ·rw[qAK]at o4;exact qAm (by omega)
   ·rw[hb]at hb';cases hb'
  subst hL
  refine(zKk none (g.cap id) w).mono ?_
  rintro e' w' ⟨rfl,rfl⟩
  have hs:η.set id (.buf true e 1 ((cmpT []).map str))=η:=by
   refine qBY fun i=>?_
   rw[qAb]
   split
   ·rename_i hi;subst hi;rw[if_pos (qAA.1 ho).1,ho];rfl
   ·rfl
  rw[hs]at h
  exact hK' _ _ (h Q hQ _ _ ⟨g,hg.put (d:=some d) (s:=.buf id _) hd ⟨hid,by rw[hb];rfl⟩⟩)
 |some b =>
  rw[<-hb]
  refine(zII g w id e b L hbd (hg.inv.ob id _ ho) hb hg.inv.st).mono fun e' w' ⟨he,q1,q2,q3,q4,q5,q6⟩=>?_
  subst he
  have h1:=zOg hg ho (qAH hro) q1 q2 q3 q4 q5 q6
  exact hK' _ _ (h Q hQ _ w' ⟨g,h1.put (d:=some d) (s:=.buf id _) hd ⟨hid,rfl⟩⟩)
attribute [local irreducible] zAK Program.underlying Ylds zA3 alex zBc zBL awp zAc zBd zBi zBD zBI zBS zA5 zBT zBY zBe zBs zBN VCall
theorem zFH{L:List Nd}{i:Nat}{v:Nd}(h:L[i]?=some v): zBn (L.take (i+1))=zBn (L.take i)++(if v.kind=22 then[v.text]else[]):=by
 unfold zBn
 rw[qA3,h,List.filterMap_append]
 congr 1
 by_cases hk:v.kind=22 <;> simp[hk]
theorem zHc(L:List Nd): (zBn L).length<=L.length:=List.length_filterMap_le _ _
theorem zMN{L:List Nd}(i:Nat)(h:L.length<=2000000): (zBn (L.take i)).length<=2000000:=by
 have:=zHc (L.take i)
 rw[qAT]at this;omega
theorem zJq(L:List Nd)(hL:L.length<=2000000): zAc prog 130 [zAm L] (strs (zBn L)):=by
 refine zAX func130 rfl ntmps130 results130 rfl ?_
 intro wb St0
 repeat' first|apply en_n|apply zAE|apply zAA|apply zAD|apply w0|apply ay (hd:=rfl)|exact zAC rfl|exact zAo rfl zA8|exact zA4 rfl|apply zAI
 refine zDV 3 false 9 1 rfl rfl ?_
 refine zAv (α:=Nat) (fun i=>i<=L.length) (fun i=>[(3,.buf 0 ((zBn (L.take i)).map str).length),(6,.d (zAm L)),(7,.d (i64 (L.length:Int))),(8,.d (i64 (i:Int)))]) (fun i=>[.buf false 9 1 ((zBn (L.take i)).map str)]) (fun i=>L.length-i) 0 (qAR _)
  (zAV (zCu rfl rfl (Le_cons rfl (Le_d rfl rfl (Le_all rfl)))) (zBM rfl rfl rfl zAW) rfl rfl) ?_
 intro i hi
 repeat' first|apply en_n|apply zAE|apply zAA|apply zAD|apply w0|(apply aI (hd:=rfl);(first|exact zAq rfl|exact Co_bb rfl rfl rfl|exact Co_nn rfl);exact rfl;(with_reducible exact zAa);exact fun _=>rfl;rotate_left;intro v hv;rotate_right)|(apply aApp (hd:=rfl) (hro:=rfl);exact rfl;exact rfl;(first|exact zAq rfl|exact Co_bb rfl rfl rfl|exact Co_nn rfl);(first|exact rfl|(simp;done));exact rfl;(with_reducible first|exact zBy|exact zBy);(with_reducible first|exact zBZ|exact zBZ);(with_reducible first|exact zHJ|exact zHJ);(with_reducible first|exact zFl|exact zFl);(first|exact zC8 (fun _=>rfl)|exact zDK rfl))|(apply zBF (hd:=rfl) (hro:=rfl);(with_reducible exact zAx))|apply ay (hd:=rfl)|exact zAC rfl|exact zAg rfl zAZ rfl|exact zCs rfl rfl|exact zEA rfl rfl|refine zBE rfl rfl ?_|exact zBA rfl|exact zAs rfl|(apply zAH;exact rfl;(with_reducible first|exact fn_0|exact fn_1))|(apply zAJ;exact rfl;(with_reducible first|exact zAp|exact zAr);exact rfl;exact rfl)|(apply zCi;(with_reducible first|exact zBy|exact zBy);(with_reducible first|exact zBZ|exact zBZ);(with_reducible first|exact zED|exact zED);exact rfl;exact rfl;(first|exact zAP rfl zAF|exact zEC rfl rfl rfl zAF|exact zFE rfl zAF);exact rfl)|(refine w0' ?_)|(apply zAl;exact rfl;exact rfl;exact rfl;(with_reducible exact zAZ);exact rfl;exact rfl;exact rfl;exact rfl)|(apply zAw;exact rfl;all_goals intro hb)|apply zAI|apply zAO|apply zAM|apply zA0|apply en_e|apply eb_n|apply eb_e|apply zAL|(apply zLJ;exact rfl;exact rfl;(first|exact rfl|(simp;done)))
 all_goals try omega
 ·have:=zMN (L:=L) i hL;simp only[qAK,qAJ,qAa];omega
 ·have e:zBn (L.take (i+1))=zBn (L.take i)++[v.text]:=by rw[zFH (i:=i) hv,if_pos hb]
  exact⟨i+1,by omega,by omega,zAV (zCu rfl (by rw[e];simp) (Le_all rfl)) (zBM rfl rfl (by rw[e,qAh];rfl) zAW) rfl rfl⟩
 ·have e:zBn (L.take (i+1))=zBn (L.take i):=by rw[zFH (i:=i) hv,if_neg hb,qBG]
  exact⟨i+1,by omega,by omega,zAV (zCu rfl (by rw[e]) (Le_all rfl)) (zBM rfl rfl (by rw[e]) zAW) rfl rfl⟩
 ·have e:L.take i=L:=qAn (by omega)
  rw[e];rfl
theorem zNF(L:List Nd)(hL:L.length<=2000000): zBd prog 130 [zAm L] (zBn L).length 9 1 ((zBn L).map str):=by
 refine zRg func130 rfl ntmps130 results130 rfl (zC8 fun _=>rfl) ?_
 intro wb St0
 repeat' first|apply en_n|apply zAE|apply zAA|apply zAD|apply w0|apply ay (hd:=rfl)|exact zAC rfl|exact zAo rfl zA8|exact zA4 rfl|apply zAI
 refine zDV 3 true 9 1 rfl rfl ?_
 refine zAv (α:=Nat) (fun i=>i<=L.length) (fun i=>[(3,.buf 0 ((zBn (L.take i)).map str).length),(6,.d (zAm L)),(7,.d (i64 (L.length:Int))),(8,.d (i64 (i:Int)))]) (fun i=>[.buf true 9 1 ((zBn (L.take i)).map str)]) (fun i=>L.length-i) 0 (qAR _)
  (zAV (zCu rfl rfl (Le_cons rfl (Le_d rfl rfl (Le_all rfl)))) (zBM rfl rfl rfl zAW) rfl rfl) ?_
 intro i hi
 repeat' first|apply en_n|apply zAE|apply zAA|apply zAD|apply w0|(apply aI (hd:=rfl);(first|exact zAq rfl|exact Co_bb rfl rfl rfl|exact Co_nn rfl);exact rfl;(with_reducible exact zAa);exact fun _=>rfl;rotate_left;intro v hv;rotate_right)|(apply aApp (hd:=rfl) (hro:=rfl);exact rfl;exact rfl;(first|exact zAq rfl|exact Co_bb rfl rfl rfl|exact Co_nn rfl);(first|exact rfl|(simp;done));exact rfl;(with_reducible first|exact zBy|exact zBy);(with_reducible first|exact zBZ|exact zBZ);(with_reducible first|exact zHJ|exact zHJ);(with_reducible first|exact zFl|exact zFl);(first|exact zC8 (fun _=>rfl)|exact zDK rfl))|(apply zBF (hd:=rfl) (hro:=rfl);(with_reducible exact zAx))|apply ay (hd:=rfl)|exact zAC rfl|exact zAg rfl zAZ rfl|exact zCs rfl rfl|exact zEA rfl rfl|refine zBE rfl rfl ?_|exact zBA rfl|exact zAs rfl|(apply zAH;exact rfl;(with_reducible first|exact fn_0|exact fn_1))|(apply zAJ;exact rfl;(with_reducible first|exact zAp|exact zAr);exact rfl;exact rfl)|(apply zCi;(with_reducible first|exact zBy|exact zBy);(with_reducible first|exact zBZ|exact zBZ);(with_reducible first|exact zED|exact zED);exact rfl;exact rfl;(first|exact zAP rfl zAF|exact zEC rfl rfl rfl zAF|exact zFE rfl zAF);exact rfl)|(refine w0' ?_)|(apply zAl;exact rfl;exact rfl;exact rfl;(with_reducible exact zAZ);exact rfl;exact rfl;exact rfl;exact rfl)|(apply zAw;exact rfl;all_goals intro hb)|apply zAI|apply zAO|apply zAM|apply zA0|apply en_e|apply eb_n|apply eb_e
 all_goals try omega
 ·have:=zMN (L:=L) i hL;simp only[qAK,qAJ,qAa];omega
 ·have e:zBn (L.take (i+1))=zBn (L.take i)++[v.text]:=by rw[zFH (i:=i) hv,if_pos hb]
  exact⟨i+1,by omega,by omega,zAV (zCu rfl (by rw[e];simp) (Le_all rfl)) (zBM rfl rfl (by rw[e,qAh];rfl) zAW) rfl rfl⟩
 ·have e:zBn (L.take (i+1))=zBn (L.take i):=by rw[zFH (i:=i) hv,if_neg hb,qBG]
  exact⟨i+1,by omega,by omega,zAV (zCu rfl (by rw[e]) (Le_all rfl)) (zBM rfl rfl (by rw[e]) zAW) rfl rfl⟩
 ·have e:L.take i=L:=qAn (by omega)
  rw[e]
  exact zPc ⟨_,rfl,.inr ⟨0,by show SV.buf 0 ((zBn L).map str).length=_;rw[qAK],rfl⟩⟩
theorem zOd(L:List Nd)(hL:L.length<=2000000): zAc prog 133 [zAm L] (i64 ((zBn L).length:Int)):=by
 refine zAX func133 rfl ntmps133 results133 rfl ?_
 intro wb St0
 repeat' first|apply en_n|apply zAE|apply zAA|apply zAD|apply w0|(refine zAU zHo (zJq L hL) (CoLA rfl))|apply ay (hd:=rfl)|exact zAC rfl|exact zAB rfl|(apply zAo;exact rfl;(with_reducible first|exact zCa|exact zCa))|apply zAM|apply zAL|refine res1 rfl ?_
 rfl
abbrev lO(L:List Nd): List Ob:=[.box [.d (zAm L)]]
theorem zT3(N:List (List UInt8)): decide ((((Go.Lib.compact (srtT N)).length:Nat):Int)<((N.length:Nat):Int)) = !decide N.Nodup:=by
 have h1:=zLj (zLE N)
 rw[(zFt N).length_eq,(zFt N).nodup_iff]at h1
 by_cases h:N.Nodup
 ·have h2:¬(Go.Lib.compact (srtT N)).length<N.length:=fun c=>h1.1 c h
  rw[decide_eq_true h,Bool.not_true,decide_eq_false_iff_not];omega
 ·have h2:=h1.2 h
  rw[decide_eq_false h,Bool.not_false,decide_eq_true_eq];omega
theorem zNI(L:List Nd)(n:Nat)(t:Tr)(h:At L n t)(hL:L.length<=2000000):
  zBI prog 128 [.d (i64 (n:Int)),.ptr 0 0] (lO L) (bl (!decide (zBn t.fl).Nodup)):=by
 have hS:=zVY L (n:Int) hL
 rw[h.sub,subE,if_neg (by rw[h.endF];omega)]at hS
 have hl:=h.len
 rw[<-Tr.fl_len]at hl
 have hN:=zNF t.fl (by omega)
 have hC:=zOd t.fl (by omega)
 have hnl:=zHc t.fl
 rw[<-zT3]
 have hsl:=(zFt (zBn t.fl)).length_eq
 generalize zBn t.fl=N at *
 refine zCt func128 rfl ntmps128 results128 rfl ?_
 intro wb St0
 exact yR
