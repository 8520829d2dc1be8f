/- Texts of this claim, merged: SynD. -/
import Derived.Test.YtblomnkamngnbaaGreatDoorMAH
import Derived.Test.YtblomnkamngnbaaGreatDoorMAR
namespace Go.Proofs.YtblomnkamngnbaaGreatDoor
open Go.Sx
theorem zTO : zAT Tryz.prog 101 = true:=by kernel_rfl
theorem zON : zAT Tryz.prog 102 = true:=by kernel_rfl
theorem zPC {C : Ctx} {σ : Sl} {η : List Ob} {g : Gh} {a : Act} {w w' : World} (h : AbsG C g σ η a w) {id e sz : Nat} {xs : List D} {o' : Ob} (hid : η[id]? = some (.buf true e sz xs)) (hro : C.ro ≤ id)
    (os : w'.os = w.os) (tape : w'.tape = w.tape) (output : w'.output = w.output) (size : w.heap.size ≤ w'.heap.size) (heap : ∀ k,k < w.heap.size → g.blk id ≠ some k → w'.heap[k]? = w.heap[k]?) (ok : ObOk g w' id o') :
    AbsG C g σ (η.set id o') a w':=by
  have hidl : id < η.length:=(List.getElem?_eq_some_iff.1 hid).1
  obtain ⟨o1,o2,o3,o4,o5⟩:=h.inv.ob id _ hid
  have hst : ∀ b o,g.St b o → g.blk id ≠ some b:=fun b o ho hb=>by
    rcases o5 with ⟨h1,_⟩ | ⟨b',us,h1,_,_,_,_,h3⟩
    · rw [h1] at hb;cases hb
    · rw [h1] at hb;injection hb with hb;subst hb
      exact absurd ((h3 o).1 ho).1 (by simp)
  have kp : Keep g.St w g.St w':=⟨fun _ _ h=>h,fun c o u hc hu=>(World.cell?_of_block (a:=⟨c,o,none⟩) (heap c (h.inv.st c o hc) (hst c o hc))).trans hu,fun c hc=>heap c (h.inv.st c 0 (hc 0)) (hst c 0 (hc 0))⟩
  have rk : ∀ {v : Value} {s : SV},RepS g w v s → RepS g w' v s:=fun r=>r.ext kp (fun _ _=>⟨rfl,rfl,rfl⟩) (Nat.le_refl _)
  refine ⟨h.defers,h.size,⟨by rw [List.length_set];exact h.inv.n,fun i c hc=>Nat.lt_of_lt_of_le (h.inv.lt i c hc) size,h.inv.dead,h.inv.inj,fun i o ho=>?_,fun c o hc=>Nat.lt_of_lt_of_le (h.inv.st c o hc) size,h.inv.gl.keep kp⟩,os.trans h.os,tape.trans h.tape,output.trans h.output,Nat.le_trans h.wsize size,fun k hk hx=>?_,h.keep.trans kp,h.new,h.own,fun t=>rk (h.rep t)⟩
  · rw [List.getElem?_set] at ho
    split at ho
    · rename_i hii;subst hii
      injection ho with ho;subst ho;exact ok
    · rename_i hii
      exact (h.inv.ob i o ho).ext kp (fun _ _=>⟨rfl,rfl,rfl⟩) (Nat.le_refl _) (by rw [h.inv.n];exact (List.getElem?_eq_some_iff.1 ho).1) (fun c hcb=>⟨heap c (h.inv.lt i c hcb) (fun e=>hii (h.inv.inj id i c e hcb)),fun _=>Iff.rfl⟩)
  · rw [heap k (Nat.lt_of_lt_of_le hk h.wsize) (fun e=>?_)]
    · exact h.heap k hk hx
    · rcases h.own id k e hro with h1 | h1
      · omega
      · exact hx h1
theorem zUz {C : Ctx} {ops : Array Oper} {rest : List Oper} {K : Sl → List Ob → Prop} {σ : Sl} {η : List Ob} {d : Nat} {ty : TypeId} {pos : String} {after : Array Edge} {gd : Option (Nat × Bool)} {ts : Array TypeId} {x : Operand} {id n e : Nat} {L : List (List UInt8)} (hP : C.P = Tryz.prog)
    (hx : oval σ x = .buf id n) (ho : η[id]? = some (.buf true e 1 (L.map str))) (hn : n = L.length) (hd : Nat.blt d C.N = true) (hro : Nat.ble C.ro id = true) (hbd : L.length ≤ 2000000)
    (h : alex C false ops rest K ((d,.top) :: σ) (η.set id (.buf true e 1 ((srtT L).map str)))) :
    zBA C false ops ⟨some d,.call ⟨.value (.func 101), #[x],ts⟩,ty,pos,after,gd⟩ rest K σ η:=by
  intro Q hQ a w ⟨g,hg⟩ K' hK'
  have e1:=hg.eval x;rw [hx] at e1
  obtain ⟨_,e1⟩:=e1
  rw [hn] at e1
  unfold Oper.wp
  have hrun : (execOp a.eval ⟨some d,.call ⟨.value (.func 101), #[x],ts⟩,ty,pos,after,gd⟩).run C.P w = .ok (.enter 101 #[a.eval x]) w:=by
    simp only [execOp,resolve,Act.eval,Deferred.ofValue,invoke,Sem.run_bind,Sem.run_pure,Result.andThen_ok,List.map_toArray,Array.empty_append,Array.append_empty]
    rw [hP]
    exact zCZ zTO
  rw [hrun,Oper.upon_enter,e1,hP]
  refine (zL2 g w id e L hbd (hg.inv.ob id _ ho) hg.inv.st).mono fun e' w' ⟨he,q1,q2,q3,q4,q5,q6⟩=>?_
  subst he
  have h1:=zPC hg ho (Nat.le_of_ble_eq_true hro) q1 q2 q3 q4 q5 q6
  exact hK' _ _ (h Q hQ _ w' ⟨g,h1.put (d:=some d) (s:=.top) hd trivial⟩)
def cmpT (L : List (List UInt8)) : List (List UInt8):=Go.Lib.compact L ++ List.replicate (L.length - (Go.Lib.compact L).length) []
theorem zQe {C : Ctx} {ops : Array Oper} {rest : List Oper} {K : Sl → List Ob → Prop} {σ : Sl} {η : List Ob} {d : Nat} {ty : TypeId} {pos : String} {after : Array Edge} {gd : Option (Nat × Bool)} {ts : Array TypeId} {x : Operand} {id n e : Nat} {L : List (List UInt8)} (hP : C.P = Tryz.prog)
    (hx : oval σ x = .buf id n) (ho : η[id]? = some (.buf true e 1 (L.map str))) (hn : n = L.length) (hd : Nat.blt d C.N = true) (hro : Nat.ble C.ro id = true) (hbd : L.length ≤ 2000000)
    (h : alex C false ops rest K ((d,.buf id (Go.Lib.compact L).length) :: σ) (η.set id (.buf true e 1 ((cmpT L).map str)))) :
    zBA C false ops ⟨some d,.call ⟨.value (.func 102), #[x],ts⟩,ty,pos,after,gd⟩ rest K σ η:=by
  intro Q hQ a w ⟨g,hg⟩ K' hK'
  have e1:=hg.eval x;rw [hx] at e1
  obtain ⟨hid,e1⟩:=e1
  rw [hn] at e1
  unfold Oper.wp
  have hrun : (execOp a.eval ⟨some d,.call ⟨.value (.func 102), #[x],ts⟩,ty,pos,after,gd⟩).run C.P w = .ok (.enter 102 #[a.eval x]) w:=by
    simp only [execOp,resolve,Act.eval,Deferred.ofValue,invoke,Sem.run_bind,Sem.run_pure,Result.andThen_ok,List.map_toArray,Array.empty_append,Array.append_empty]
    rw [hP]
    exact zCZ zON
  rw [hrun,Oper.upon_enter,e1,hP]
  cases hb : g.blk id with
  | none =>
    have hL : L = []:=by
      obtain ⟨o1,o2,o3,o4,o5⟩:=hg.inv.ob id _ ho
      rcases o5 with ⟨_,o5⟩ | ⟨b',us,hb',_⟩
      · rw [List.length_map] at o4;exact List.eq_nil_of_length_eq_zero (by omega)
      · rw [hb] at hb';cases hb'
    subst hL
    refine (Tryz.compactNone none (g.cap id) w).mono ?_
    rintro e' w' ⟨rfl,rfl⟩
    have hs : η.set id (.buf true e 1 ((cmpT []).map str)) = η:=by
      refine List.ext_getElem? fun i=>?_
      rw [List.getElem?_set]
      split
      · rename_i hi;subst hi;rw [if_pos (List.getElem?_eq_some_iff.1 ho).1,ho];rfl
      · rfl
    rw [hs] at h
    exact hK' _ _ (h Q hQ _ _ ⟨g,hg.put (d:=some d) (s:=.buf id _) hd ⟨hid,by rw [hb];rfl⟩⟩)
  | some b =>
    rw [← hb]
    refine (zIs g w id e b L hbd (hg.inv.ob id _ ho) hb hg.inv.st).mono fun e' w' ⟨he,q1,q2,q3,q4,q5,q6⟩=>?_
    subst he
    have h1:=zPC hg ho (Nat.le_of_ble_eq_true hro) q1 q2 q3 q4 q5 q6
    exact hK' _ _ (h Q hQ _ w' ⟨g,h1.put (d:=some d) (s:=.buf id _) hd ⟨hid,rfl⟩⟩)
attribute [local irreducible] zAT Program.underlying Ylds zBA alex zBe zBP awp zAj zBZ zBk zA2 zBH zBR zA8 zBV zBb zBf zBu zBO VCall
theorem zFf {L : List Nd} {i : Nat} {v : Nd} (h : L[i]? = some v) : zBJ (L.take (i + 1)) = zBJ (L.take i) ++ (if v.kind = 22 then [v.text] else []):=by
  unfold zBJ
  rw [List.take_add_one,h,List.filterMap_append]
  congr 1
  by_cases hk : v.kind = 22 <;> simp [hk]
theorem zEb (L : List Nd) : (zBJ L).length ≤ L.length:=List.length_filterMap_le _ _
theorem zNA {L : List Nd} (i : Nat) (h : L.length ≤ 2000000) : (zBJ (L.take i)).length ≤ 2000000:=by
  have:=zEb (L.take i)
  rw [List.length_take] at this;omega
theorem zKd (L : List Nd) (hL : L.length ≤ 2000000) : zAj Tryz.prog 100 [zAc L] (strs (zBJ L)):=by
  refine zAd Tryz.func100 rfl Tryz.ntmps100 Tryz.results100 rfl ?_
  intro wb St0
  repeat' first | apply en_n|apply zAH|apply zAB|apply zAF|apply w0|apply ay (hd:=rfl)|exact zAE rfl|(apply zAl;exact rfl;(with_reducible exact zA0))|exact zAb rfl|apply zAI
  refine zCI 3 false 9 1 rfl rfl ?_
  refine zAr (α:=Nat) (fun i=>i ≤ L.length) (fun i=>[(3,.buf 0 ((zBJ (L.take i)).map str).length),(6,.d (zAc L)),(7,.d (i64 (L.length : Int))),(8,.d (i64 (i : Int)))]) (fun i=>[.buf false 9 1 ((zBJ (L.take i)).map str)]) (fun i=>L.length - i) 0 (Nat.zero_le _)
    (zAO (zBt rfl rfl (zAA rfl (Le_d rfl rfl (zAA rfl zAa)))) (zAu rfl rfl rfl zAN) rfl rfl) ?_
  intro i hi
  repeat' first | apply en_n|apply zAH|apply zAB|apply zAF|apply w0|(apply aI (hd:=rfl);(first|exact zAk rfl|exact Co_bb rfl rfl rfl|exact Co_nn rfl);exact rfl;(with_reducible exact zAW);exact fun _=>rfl;rotate_left;intro v hv;rotate_right)|(apply aApp (hd:=rfl) (hro:=rfl);exact rfl;exact rfl;(first|exact zAk rfl|exact Co_bb rfl rfl rfl|exact Co_nn rfl);(first|exact rfl|(simp;done));exact rfl;(with_reducible first|exact zB1|exact zB1);(with_reducible first|exact zBW|exact zBW);(with_reducible first|exact zHx|exact zHx);(with_reducible first|exact zF8|exact zF8);(first|exact zCF (fun _=>rfl)|exact zCE rfl))|(apply zA4 (hd:=rfl) (hro:=rfl);(with_reducible exact zAp))|apply ay (hd:=rfl)|exact zAE rfl|(apply zAf;exact rfl;(with_reducible exact zAY);exact rfl)|exact zCT rfl rfl|exact zC6 rfl rfl|(apply zBC;exact rfl;exact rfl)|exact zAw rfl|exact zAm rfl|(apply zAR;exact rfl;(with_reducible first|exact fn_0|exact fn_1))|(apply zAU;exact rfl;(with_reducible first|exact zAe|exact zAv);exact rfl;exact rfl)|(apply zCC;(with_reducible first|exact zB1|exact zB1);(with_reducible first|exact zBW|exact zBW);(with_reducible first|exact zDk|exact zDk);exact rfl;exact rfl;(first|exact zAX rfl zAG|exact zC4 rfl rfl rfl zAG|exact zDG rfl zAG);exact rfl)|(refine w0' ?_)|(apply zAx;exact rfl;exact rfl;exact rfl;(with_reducible exact zAY);exact rfl;exact rfl;exact rfl;exact rfl)|(apply zAz;exact rfl;(intro hb);rotate_left;(intro hb);rotate_right)|apply zAI|apply zAP|apply zAM|apply zAt|apply en_e|apply eb_n|apply eb_e|apply zAJ|(apply zGx;exact rfl;exact rfl;(first|exact rfl|(simp;done)))
  all_goals try omega
  · have:=zNA (L:=L) i hL;simp only [List.length_map,List.length_cons,List.length_nil];omega
  · have e : zBJ (L.take (i + 1)) = zBJ (L.take i) ++ [v.text]:=by rw [zFf (i:=i) hv,if_pos hb]
    exact ⟨i + 1,by omega,by omega,zAO (zBt rfl (by rw [e];simp) (zAA rfl (zAA rfl (zAA rfl zAa)))) (zAu rfl rfl (by rw [e,List.map_append];rfl) zAN) rfl rfl⟩
  · have e : zBJ (L.take (i + 1)) = zBJ (L.take i):=by rw [zFf (i:=i) hv,if_neg hb,List.append_nil]
    exact ⟨i + 1,by omega,by omega,zAO (zBt rfl (by rw [e]) (zAA rfl (zAA rfl (zAA rfl zAa)))) (zAu rfl rfl (by rw [e]) zAN) rfl rfl⟩
  · have e : L.take i = L:=List.take_of_length_le (by omega)
    rw [e];rfl
theorem zNy (L : List Nd) (hL : L.length ≤ 2000000) : zBZ Tryz.prog 100 [zAc L] (zBJ L).length 9 1 ((zBJ L).map str):=by
  refine zKI Tryz.func100 rfl Tryz.ntmps100 Tryz.results100 rfl (zCF fun _=>rfl) ?_
  intro wb St0
  repeat' first | apply en_n|apply zAH|apply zAB|apply zAF|apply w0|apply ay (hd:=rfl)|exact zAE rfl|(apply zAl;exact rfl;(with_reducible exact zA0))|exact zAb rfl|apply zAI
  refine zCI 3 true 9 1 rfl rfl ?_
  refine zAr (α:=Nat) (fun i=>i ≤ L.length) (fun i=>[(3,.buf 0 ((zBJ (L.take i)).map str).length),(6,.d (zAc L)),(7,.d (i64 (L.length : Int))),(8,.d (i64 (i : Int)))]) (fun i=>[.buf true 9 1 ((zBJ (L.take i)).map str)]) (fun i=>L.length - i) 0 (Nat.zero_le _)
    (zAO (zBt rfl rfl (zAA rfl (Le_d rfl rfl (zAA rfl zAa)))) (zAu rfl rfl rfl zAN) rfl rfl) ?_
  intro i hi
  repeat' first | apply en_n|apply zAH|apply zAB|apply zAF|apply w0|(apply aI (hd:=rfl);(first|exact zAk rfl|exact Co_bb rfl rfl rfl|exact Co_nn rfl);exact rfl;(with_reducible exact zAW);exact fun _=>rfl;rotate_left;intro v hv;rotate_right)|(apply aApp (hd:=rfl) (hro:=rfl);exact rfl;exact rfl;(first|exact zAk rfl|exact Co_bb rfl rfl rfl|exact Co_nn rfl);(first|exact rfl|(simp;done));exact rfl;(with_reducible first|exact zB1|exact zB1);(with_reducible first|exact zBW|exact zBW);(with_reducible first|exact zHx|exact zHx);(with_reducible first|exact zF8|exact zF8);(first|exact zCF (fun _=>rfl)|exact zCE rfl))|(apply zA4 (hd:=rfl) (hro:=rfl);(with_reducible exact zAp))|apply ay (hd:=rfl)|exact zAE rfl|(apply zAf;exact rfl;(with_reducible exact zAY);exact rfl)|exact zCT rfl rfl|exact zC6 rfl rfl|(apply zBC;exact rfl;exact rfl)|exact zAw rfl|exact zAm rfl|(apply zAR;exact rfl;(with_reducible first|exact fn_0|exact fn_1))|(apply zAU;exact rfl;(with_reducible first|exact zAe|exact zAv);exact rfl;exact rfl)|(apply zCC;(with_reducible first|exact zB1|exact zB1);(with_reducible first|exact zBW|exact zBW);(with_reducible first|exact zDk|exact zDk);exact rfl;exact rfl;(first|exact zAX rfl zAG|exact zC4 rfl rfl rfl zAG|exact zDG rfl zAG);exact rfl)|(refine w0' ?_)|(apply zAx;exact rfl;exact rfl;exact rfl;(with_reducible exact zAY);exact rfl;exact rfl;exact rfl;exact rfl)|(apply zAz;exact rfl;(intro hb);rotate_left;(intro hb);rotate_right)|apply zAI|apply zAP|apply zAM|apply zAt|apply en_e|apply eb_n|apply eb_e
  all_goals try omega
  · have:=zNA (L:=L) i hL;simp only [List.length_map,List.length_cons,List.length_nil];omega
  · have e : zBJ (L.take (i + 1)) = zBJ (L.take i) ++ [v.text]:=by rw [zFf (i:=i) hv,if_pos hb]
    exact ⟨i + 1,by omega,by omega,zAO (zBt rfl (by rw [e];simp) (zAA rfl (zAA rfl (zAA rfl zAa)))) (zAu rfl rfl (by rw [e,List.map_append];rfl) zAN) rfl rfl⟩
  · have e : zBJ (L.take (i + 1)) = zBJ (L.take i):=by rw [zFf (i:=i) hv,if_neg hb,List.append_nil]
    exact ⟨i + 1,by omega,by omega,zAO (zBt rfl (by rw [e]) (zAA rfl (zAA rfl (zAA rfl zAa)))) (zAu rfl rfl (by rw [e]) zAN) rfl rfl⟩
  · have e : L.take i = L:=List.take_of_length_le (by omega)
    rw [e]
    exact zGd ⟨_,rfl,.inr ⟨0,by show SV.buf 0 ((zBJ L).map str).length = _;rw [List.length_map],rfl⟩⟩
theorem zO8 (L : List Nd) (hL : L.length ≤ 2000000) : zAj Tryz.prog 103 [zAc L] (i64 ((zBJ L).length : Int)):=by
  refine zAd Tryz.func103 rfl Tryz.ntmps103 Tryz.results103 rfl ?_
  intro wb St0
  repeat' first | apply en_n|apply zAH|apply zAB|apply zAF|apply w0|(refine zAV zIS (zKd L hL) (zAX rfl zAG))|apply ay (hd:=rfl)|exact zAE rfl|exact zAC rfl|(apply zAl;exact rfl;(with_reducible first|exact zC5|exact zC5))|apply zAM|apply zAJ|(apply res1;exact rfl)
  rfl
abbrev lO (L : List Nd) : List Ob:=[.box [.d (zAc L)]]
theorem zTe (N : List (List UInt8)) : decide ((((Go.Lib.compact (srtT N)).length : Nat) : Int) < ((N.length : Nat) : Int)) = !decide N.Nodup:=by
  have h1:=zMP (zL1 N)
  rw [(zGG N).length_eq,(zGG N).nodup_iff] at h1
  by_cases h : N.Nodup
  · have h2 : ¬ (Go.Lib.compact (srtT N)).length < N.length:=fun c=>h1.1 c h
    rw [decide_eq_true h,Bool.not_true,decide_eq_false_iff_not];omega
  · have h2:=h1.2 h
    rw [decide_eq_false h,Bool.not_false,decide_eq_true_eq];omega
theorem zNz (L : List Nd) (n : Nat) (t : Tr) (h : At L n t) (hL : L.length ≤ 2000000) :
    zBH Tryz.prog 98 [.d (i64 (n : Int)),.ptr 0 0] (lO L) (bl (!decide (zBJ t.fl).Nodup)):=by
  have hS:=zVF L (n : Int) hL
  rw [h.sub,subE,if_neg (by rw [h.endF];omega)] at hS
  have hl:=h.len
  rw [← Tr.fl_len] at hl
  have hN:=zNy t.fl (by omega)
  have hC:=zO8 t.fl (by omega)
  have hnl:=zEb t.fl
  rw [← zTe]
  have hsl:=(zGG (zBJ t.fl)).length_eq
  generalize zBJ t.fl = N at *
  refine zBx Tryz.func98 rfl Tryz.ntmps98 Tryz.results98 rfl ?_
  intro wb St0
  repeat' first | apply en_n|apply zAH|apply zAB|apply zAF|apply w0|(refine zAV zUb hS (zAX rfl (zAX rfl zAG)))|(refine zQd zIS hN (zAX rfl zAG) rfl rfl ?_)|(refine zUz (L:=N) rfl rfl rfl rfl rfl rfl (by omega) ?_)|(refine zQe (L:=srtT N) rfl rfl rfl hsl.symm rfl rfl (by omega) ?_)|(refine zAV zPm hC (zAX rfl zAG))|apply ay (hd:=rfl)|exact zAE rfl|exact zAC rfl|exact zCT rfl rfl|exact zBQ rfl rfl|exact zAw rfl|exact zAm rfl|(apply zCu;exact rfl;(with_reducible first|exact zC5|exact zC5))|(apply zAU;exact rfl;(with_reducible exact zAn);exact rfl;exact rfl)|apply zAM|apply zAJ|(apply res1;exact rfl)
  all_goals rfl
end Go.Proofs.YtblomnkamngnbaaGreatDoor
