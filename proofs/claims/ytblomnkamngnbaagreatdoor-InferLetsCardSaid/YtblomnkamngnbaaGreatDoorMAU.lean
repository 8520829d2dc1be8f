/- Texts of this claim, merged: SynD. -/
import Derived.Test.YtblomnkamngnbaaGreatDoorMAI
import Derived.Test.YtblomnkamngnbaaGreatDoorMAS
namespace Go.Proofs.YtblomnkamngnbaaGreatDoor
open Go.Sx
theorem zUW : zAO Tryz.prog 101 = true:=by kernel_rfl
theorem zO1 : zAO Tryz.prog 102 = true:=by kernel_rfl
theorem zPy {C : Ctx} {σ : Sl} {η : List Ob} {g : Gh} {a : Act} {w w' : World} (h : AbsG C g σ η a w) {id e sz : Nat} {xs : List D} {o' : Ob} (hid : η[id]? = some (.buf true e sz xs)) (hro : C.ro ≤ id)
    (os : w'.os = w.os) (tape : w'.tape = w.tape) (output : w'.output = w.output) (size : w.heap.size ≤ w'.heap.size) (heap : ∀ k,k < w.heap.size → g.blk id ≠ some k → w'.heap[k]? = w.heap[k]?) (ok : ObOk g w' id o') :
    AbsG C g σ (η.set id o') a w':=by
  have hidl : id < η.length:=(List.getElem?_eq_some_iff.1 hid).1
  obtain ⟨o1,o2,o3,o4,o5⟩:=h.inv.ob id _ hid
  have hst : ∀ b o,g.St b o → g.blk id ≠ some b:=fun b o ho hb=>by
    rcases o5 with ⟨h1,_⟩ | ⟨b',us,h1,_,_,_,_,h3⟩
    · rw [h1] at hb;cases hb
    · rw [h1] at hb;injection hb with hb;subst hb
      exact absurd ((h3 o).1 ho).1 (by simp)
  have kp : Keep g.St w g.St w':=⟨fun _ _ h=>h,fun c o u hc hu=>(World.cell?_of_block (a:=⟨c,o,none⟩) (heap c (h.inv.st c o hc) (hst c o hc))).trans hu,fun c hc=>heap c (h.inv.st c 0 (hc 0)) (hst c 0 (hc 0))⟩
  have rk : ∀ {v : Value} {s : SV},RepS g w v s → RepS g w' v s:=fun r=>r.ext kp (fun _ _=>⟨rfl,rfl,rfl⟩) (Nat.le_refl _)
  refine ⟨h.defers,h.size,⟨by rw [List.length_set];exact h.inv.n,fun i c hc=>Nat.lt_of_lt_of_le (h.inv.lt i c hc) size,h.inv.dead,h.inv.inj,fun i o ho=>?_,fun c o hc=>Nat.lt_of_lt_of_le (h.inv.st c o hc) size,h.inv.gl.keep kp⟩,os.trans h.os,tape.trans h.tape,output.trans h.output,Nat.le_trans h.wsize size,fun k hk hx=>?_,h.keep.trans kp,h.new,h.own,fun t=>rk (h.rep t)⟩
  · rw [List.getElem?_set] at ho
    split at ho
    · rename_i hii;subst hii
      injection ho with ho;subst ho;exact ok
    · rename_i hii
      exact (h.inv.ob i o ho).ext kp (fun _ _=>⟨rfl,rfl,rfl⟩) (Nat.le_refl _) (by rw [h.inv.n];exact (List.getElem?_eq_some_iff.1 ho).1) (fun c hcb=>⟨heap c (h.inv.lt i c hcb) (fun e=>hii (h.inv.inj id i c e hcb)),fun _=>Iff.rfl⟩)
  · rw [heap k (Nat.lt_of_lt_of_le hk h.wsize) (fun e=>?_)]
    · exact h.heap k hk hx
    · rcases h.own id k e hro with h1 | h1
      · omega
      · exact hx h1
theorem zV0 {C : Ctx} {ops : Array Oper} {rest : List Oper} {K : Sl → List Ob → Prop} {σ : Sl} {η : List Ob} {d : Nat} {ty : TypeId} {pos : String} {after : Array Edge} {gd : Option (Nat × Bool)} {ts : Array TypeId} {x : Operand} {id n e : Nat} {L : List (List UInt8)} (hP : C.P = Tryz.prog)
    (hx : oval σ x = .buf id n) (ho : η[id]? = some (.buf true e 1 (L.map str))) (hn : n = L.length) (hd : Nat.blt d C.N = true) (hro : Nat.ble C.ro id = true) (hbd : L.length ≤ 2000000)
    (h : alex C false ops rest K ((d,.top) :: σ) (η.set id (.buf true e 1 ((srtT L).map str)))) :
    zA3 C false ops ⟨some d,.call ⟨.value (.func 101), #[x],ts⟩,ty,pos,after,gd⟩ rest K σ η:=by
  intro Q hQ a w ⟨g,hg⟩ K' hK'
  have e1:=hg.eval x;rw [hx] at e1
  obtain ⟨_,e1⟩:=e1
  rw [hn] at e1
  unfold Oper.wp
  have hrun : (execOp a.eval ⟨some d,.call ⟨.value (.func 101), #[x],ts⟩,ty,pos,after,gd⟩).run C.P w = .ok (.enter 101 #[a.eval x]) w:=by
    simp only [execOp,resolve,Act.eval,Deferred.ofValue,invoke,Sem.run_bind,Sem.run_pure,Result.andThen_ok,List.map_toArray,Array.empty_append,Array.append_empty]
    rw [hP]
    exact zCk zUW
  rw [hrun,Oper.upon_enter,e1,hP]
  refine (zMX g w id e L hbd (hg.inv.ob id _ ho) hg.inv.st).mono fun e' w' ⟨he,q1,q2,q3,q4,q5,q6⟩=>?_
  subst he
  have h1:=zPy hg ho (Nat.le_of_ble_eq_true hro) q1 q2 q3 q4 q5 q6
  exact hK' _ _ (h Q hQ _ w' ⟨g,h1.put (d:=some d) (s:=.top) hd trivial⟩)
def cmpT (L : List (List UInt8)) : List (List UInt8):=Go.Lib.compact L ++ List.replicate (L.length - (Go.Lib.compact L).length) []
theorem zRY {C : Ctx} {ops : Array Oper} {rest : List Oper} {K : Sl → List Ob → Prop} {σ : Sl} {η : List Ob} {d : Nat} {ty : TypeId} {pos : String} {after : Array Edge} {gd : Option (Nat × Bool)} {ts : Array TypeId} {x : Operand} {id n e : Nat} {L : List (List UInt8)} (hP : C.P = Tryz.prog)
    (hx : oval σ x = .buf id n) (ho : η[id]? = some (.buf true e 1 (L.map str))) (hn : n = L.length) (hd : Nat.blt d C.N = true) (hro : Nat.ble C.ro id = true) (hbd : L.length ≤ 2000000)
    (h : alex C false ops rest K ((d,.buf id (Go.Lib.compact L).length) :: σ) (η.set id (.buf true e 1 ((cmpT L).map str)))) :
    zA3 C false ops ⟨some d,.call ⟨.value (.func 102), #[x],ts⟩,ty,pos,after,gd⟩ rest K σ η:=by
  intro Q hQ a w ⟨g,hg⟩ K' hK'
  have e1:=hg.eval x;rw [hx] at e1
  obtain ⟨hid,e1⟩:=e1
  rw [hn] at e1
  unfold Oper.wp
  have hrun : (execOp a.eval ⟨some d,.call ⟨.value (.func 102), #[x],ts⟩,ty,pos,after,gd⟩).run C.P w = .ok (.enter 102 #[a.eval x]) w:=by
    simp only [execOp,resolve,Act.eval,Deferred.ofValue,invoke,Sem.run_bind,Sem.run_pure,Result.andThen_ok,List.map_toArray,Array.empty_append,Array.append_empty]
    rw [hP]
    exact zCk zO1
  rw [hrun,Oper.upon_enter,e1,hP]
  cases hb : g.blk id with
  | none =>
    have hL : L = []:=by
      obtain ⟨o1,o2,o3,o4,o5⟩:=hg.inv.ob id _ ho
      rcases o5 with ⟨_,o5⟩ | ⟨b',us,hb',_⟩
      · rw [List.length_map] at o4;exact List.eq_nil_of_length_eq_zero (by omega)
      · rw [hb] at hb';cases hb'
    subst hL
    refine (Tryz.compactNone none (g.cap id) w).mono ?_
    rintro e' w' ⟨rfl,rfl⟩
    have hs : η.set id (.buf true e 1 ((cmpT []).map str)) = η:=by
      refine List.ext_getElem? fun i=>?_
      rw [List.getElem?_set]
      split
      · rename_i hi;subst hi;rw [if_pos (List.getElem?_eq_some_iff.1 ho).1,ho];rfl
      · rfl
    rw [hs] at h
    exact hK' _ _ (h Q hQ _ _ ⟨g,hg.put (d:=some d) (s:=.buf id _) hd ⟨hid,by rw [hb];rfl⟩⟩)
  | some b =>
    rw [← hb]
    refine (zJB g w id e b L hbd (hg.inv.ob id _ ho) hb hg.inv.st).mono fun e' w' ⟨he,q1,q2,q3,q4,q5,q6⟩=>?_
    subst he
    have h1:=zPy hg ho (Nat.le_of_ble_eq_true hro) q1 q2 q3 q4 q5 q6
    exact hK' _ _ (h Q hQ _ w' ⟨g,h1.put (d:=some d) (s:=.buf id _) hd ⟨hid,rfl⟩⟩)
attribute [local irreducible] zAO Program.underlying Ylds zA3 alex zBY zBN awp zAm zBT zBe zAx zBA zBP zA2 zBR zBX zBa zBq zBI VCall
theorem zF0 {L : List Nd} {i : Nat} {v : Nd} (h : L[i]? = some v) : zBJ (L.take (i + 1)) = zBJ (L.take i) ++ (if v.kind = 22 then [v.text] else []):=by
  unfold zBJ
  rw [List.take_add_one,h,List.filterMap_append]
  congr 1
  by_cases hk : v.kind = 22 <;> simp [hk]
theorem zIV (L : List Nd) : (zBJ L).length ≤ L.length:=List.length_filterMap_le _ _
theorem zNo {L : List Nd} (i : Nat) (h : L.length ≤ 2000000) : (zBJ (L.take i)).length ≤ 2000000:=by
  have:=zIV (L.take i)
  rw [List.length_take] at this;omega
theorem zK7 (L : List Nd) (hL : L.length ≤ 2000000) : zAm Tryz.prog 100 [zAc L] (strs (zBJ L)):=by
  refine zAd Tryz.func100 rfl Tryz.ntmps100 Tryz.results100 rfl ?_
  intro wb St0
  repeat' first | apply en_n|apply zAH|apply zAC|apply zAF|apply w0|apply ay (hd:=rfl)|exact zAE rfl|(apply zAr;exact rfl;(with_reducible exact zA7))|exact zAY rfl|apply zAJ
  refine zCO 3 false 9 1 rfl rfl ?_
  refine zAs (α:=Nat) (fun i=>i ≤ L.length) (fun i=>[(3,.buf 0 ((zBJ (L.take i)).map str).length),(6,.d (zAc L)),(7,.d (i64 (L.length : Int))),(8,.d (i64 (i : Int)))]) (fun i=>[.buf false 9 1 ((zBJ (L.take i)).map str)]) (fun i=>L.length - i) 0 (Nat.zero_le _)
    (zAL (zBs rfl rfl (zAA rfl (Le_d rfl rfl (zAA rfl zAW)))) (zAl rfl rfl rfl zAK) rfl rfl) ?_
  intro i hi
  repeat' first | apply en_n|apply zAH|apply zAC|apply zAF|apply w0|(apply aI (hd:=rfl);(first|exact zAn rfl|exact Co_bb rfl rfl rfl|exact Co_nn rfl);exact rfl;(with_reducible exact zAa);exact fun _=>rfl;rotate_left;intro v hv;rotate_right)|(apply aApp (hd:=rfl) (hro:=rfl);exact rfl;exact rfl;(first|exact zAn rfl|exact Co_bb rfl rfl rfl|exact Co_nn rfl);(first|exact rfl|(simp;done));exact rfl;(with_reducible first|exact zCG|exact zCG);(with_reducible first|exact zBx|exact zBx);(with_reducible first|exact zKu|exact zKu);(with_reducible first|exact zIz|exact zIz);(first|exact zCc (fun _=>rfl)|exact zCP rfl))|(apply zBE (hd:=rfl) (hro:=rfl);(with_reducible exact zAp))|apply ay (hd:=rfl)|exact zAE rfl|(apply zAf;exact rfl;(with_reducible exact zAb);exact rfl)|exact zDG rfl rfl|exact zD7 rfl rfl|(apply zBG;exact rfl;exact rfl)|exact zAt rfl|exact zAj rfl|(apply zAS;exact rfl;(with_reducible first|exact fn_0|exact fn_1))|(apply zAV;exact rfl;(with_reducible first|exact zAk|exact zA4);exact rfl;exact rfl)|(apply zCD;(with_reducible first|exact zCG|exact zCG);(with_reducible first|exact zBx|exact zBx);(with_reducible first|exact zEg|exact zEg);exact rfl;exact rfl;(first|exact zAZ rfl zAG|exact zCo rfl rfl rfl zAG|exact zCs rfl zAG);exact rfl)|(refine w0' ?_)|(apply zA0;exact rfl;exact rfl;exact rfl;(with_reducible exact zAb);exact rfl;exact rfl;exact rfl;exact rfl)|(apply zA1;exact rfl;(intro hb);rotate_left;(intro hb);rotate_right)|apply zAJ|apply zAT|apply zAN|apply zAu|apply en_e|apply eb_n|apply eb_e|apply zAP|(apply zJ5;exact rfl;exact rfl;(first|exact rfl|(simp;done)))
  all_goals try omega
  · have:=zNo (L:=L) i hL;simp only [List.length_map,List.length_cons,List.length_nil];omega
  · have e : zBJ (L.take (i + 1)) = zBJ (L.take i) ++ [v.text]:=by rw [zF0 (i:=i) hv,if_pos hb]
    exact ⟨i + 1,by omega,by omega,zAL (zBs rfl (by rw [e];simp) (zAA rfl (zAA rfl (zAA rfl zAW)))) (zAl rfl rfl (by rw [e,List.map_append];rfl) zAK) rfl rfl⟩
  · have e : zBJ (L.take (i + 1)) = zBJ (L.take i):=by rw [zF0 (i:=i) hv,if_neg hb,List.append_nil]
    exact ⟨i + 1,by omega,by omega,zAL (zBs rfl (by rw [e]) (zAA rfl (zAA rfl (zAA rfl zAW)))) (zAl rfl rfl (by rw [e]) zAK) rfl rfl⟩
  · have e : L.take i = L:=List.take_of_length_le (by omega)
    rw [e];rfl
theorem zOf (L : List Nd) (hL : L.length ≤ 2000000) : zBT Tryz.prog 100 [zAc L] (zBJ L).length 9 1 ((zBJ L).map str):=by
  refine zKc Tryz.func100 rfl Tryz.ntmps100 Tryz.results100 rfl (zCc fun _=>rfl) ?_
  intro wb St0
  repeat' first | apply en_n|apply zAH|apply zAC|apply zAF|apply w0|apply ay (hd:=rfl)|exact zAE rfl|(apply zAr;exact rfl;(with_reducible exact zA7))|exact zAY rfl|apply zAJ
  refine zCO 3 true 9 1 rfl rfl ?_
  refine zAs (α:=Nat) (fun i=>i ≤ L.length) (fun i=>[(3,.buf 0 ((zBJ (L.take i)).map str).length),(6,.d (zAc L)),(7,.d (i64 (L.length : Int))),(8,.d (i64 (i : Int)))]) (fun i=>[.buf true 9 1 ((zBJ (L.take i)).map str)]) (fun i=>L.length - i) 0 (Nat.zero_le _)
    (zAL (zBs rfl rfl (zAA rfl (Le_d rfl rfl (zAA rfl zAW)))) (zAl rfl rfl rfl zAK) rfl rfl) ?_
  intro i hi
  repeat' first | apply en_n|apply zAH|apply zAC|apply zAF|apply w0|(apply aI (hd:=rfl);(first|exact zAn rfl|exact Co_bb rfl rfl rfl|exact Co_nn rfl);exact rfl;(with_reducible exact zAa);exact fun _=>rfl;rotate_left;intro v hv;rotate_right)|(apply aApp (hd:=rfl) (hro:=rfl);exact rfl;exact rfl;(first|exact zAn rfl|exact Co_bb rfl rfl rfl|exact Co_nn rfl);(first|exact rfl|(simp;done));exact rfl;(with_reducible first|exact zCG|exact zCG);(with_reducible first|exact zBx|exact zBx);(with_reducible first|exact zKu|exact zKu);(with_reducible first|exact zIz|exact zIz);(first|exact zCc (fun _=>rfl)|exact zCP rfl))|(apply zBE (hd:=rfl) (hro:=rfl);(with_reducible exact zAp))|apply ay (hd:=rfl)|exact zAE rfl|(apply zAf;exact rfl;(with_reducible exact zAb);exact rfl)|exact zDG rfl rfl|exact zD7 rfl rfl|(apply zBG;exact rfl;exact rfl)|exact zAt rfl|exact zAj rfl|(apply zAS;exact rfl;(with_reducible first|exact fn_0|exact fn_1))|(apply zAV;exact rfl;(with_reducible first|exact zAk|exact zA4);exact rfl;exact rfl)|(apply zCD;(with_reducible first|exact zCG|exact zCG);(with_reducible first|exact zBx|exact zBx);(with_reducible first|exact zEg|exact zEg);exact rfl;exact rfl;(first|exact zAZ rfl zAG|exact zCo rfl rfl rfl zAG|exact zCs rfl zAG);exact rfl)|(refine w0' ?_)|(apply zA0;exact rfl;exact rfl;exact rfl;(with_reducible exact zAb);exact rfl;exact rfl;exact rfl;exact rfl)|(apply zA1;exact rfl;(intro hb);rotate_left;(intro hb);rotate_right)|apply zAJ|apply zAT|apply zAN|apply zAu|apply en_e|apply eb_n|apply eb_e
  all_goals try omega
  · have:=zNo (L:=L) i hL;simp only [List.length_map,List.length_cons,List.length_nil];omega
  · have e : zBJ (L.take (i + 1)) = zBJ (L.take i) ++ [v.text]:=by rw [zF0 (i:=i) hv,if_pos hb]
    exact ⟨i + 1,by omega,by omega,zAL (zBs rfl (by rw [e];simp) (zAA rfl (zAA rfl (zAA rfl zAW)))) (zAl rfl rfl (by rw [e,List.map_append];rfl) zAK) rfl rfl⟩
  · have e : zBJ (L.take (i + 1)) = zBJ (L.take i):=by rw [zF0 (i:=i) hv,if_neg hb,List.append_nil]
    exact ⟨i + 1,by omega,by omega,zAL (zBs rfl (by rw [e]) (zAA rfl (zAA rfl (zAA rfl zAW)))) (zAl rfl rfl (by rw [e]) zAK) rfl rfl⟩
  · have e : L.take i = L:=List.take_of_length_le (by omega)
    rw [e]
    exact zGz ⟨_,rfl,.inr ⟨0,by show SV.buf 0 ((zBJ L).map str).length = _;rw [List.length_map],rfl⟩⟩
theorem zPu (L : List Nd) (hL : L.length ≤ 2000000) : zAm Tryz.prog 103 [zAc L] (i64 ((zBJ L).length : Int)):=by
  refine zAd Tryz.func103 rfl Tryz.ntmps103 Tryz.results103 rfl ?_
  intro wb St0
  repeat' first | apply en_n|apply zAH|apply zAC|apply zAF|apply w0|(refine zAX zIi (zK7 L hL) (zAZ rfl zAG))|apply ay (hd:=rfl)|exact zAE rfl|exact zAD rfl|(apply zAr;exact rfl;(with_reducible first|exact zDu|exact zDu))|apply zAN|apply zAP|(apply res1;exact rfl)
  rfl
abbrev lO (L : List Nd) : List Ob:=[.box [.d (zAc L)]]
theorem zUl (N : List (List UInt8)) : decide ((((Go.Lib.compact (srtT N)).length : Nat) : Int) < ((N.length : Nat) : Int)) = !decide N.Nodup:=by
  have h1:=zM1 (zMW N)
  rw [(zGe N).length_eq,(zGe N).nodup_iff] at h1
  by_cases h : N.Nodup
  · have h2 : ¬ (Go.Lib.compact (srtT N)).length < N.length:=fun c=>h1.1 c h
    rw [decide_eq_true h,Bool.not_true,decide_eq_false_iff_not];omega
  · have h2:=h1.2 h
    rw [decide_eq_false h,Bool.not_false,decide_eq_true_eq];omega
theorem zOg (L : List Nd) (n : Nat) (t : Tr) (h : At L n t) (hL : L.length ≤ 2000000) :
    zBA Tryz.prog 98 [.d (i64 (n : Int)),.ptr 0 0] (lO L) (bl (!decide (zBJ t.fl).Nodup)):=by
  have hS:=zWG L (n : Int) hL
  rw [h.sub,subE,if_neg (by rw [h.endF];omega)] at hS
  have hl:=h.len
  rw [← Tr.fl_len] at hl
  have hN:=zOf t.fl (by omega)
  have hC:=zPu t.fl (by omega)
  have hnl:=zIV t.fl
  rw [← zUl]
  have hsl:=(zGe (zBJ t.fl)).length_eq
  generalize zBJ t.fl = N at *
  refine zBw Tryz.func98 rfl Tryz.ntmps98 Tryz.results98 rfl ?_
  intro wb St0
  repeat' first | apply en_n|apply zAH|apply zAC|apply zAF|apply w0|(refine zAX zVd hS (zAZ rfl (zAZ rfl zAG)))|(refine zRX zIi hN (zAZ rfl zAG) rfl rfl ?_)|(refine zV0 (L:=N) rfl rfl rfl rfl rfl rfl (by omega) ?_)|(refine zRY (L:=srtT N) rfl rfl rfl hsl.symm rfl rfl (by omega) ?_)|(refine zAX zQc hC (zAZ rfl zAG))|apply ay (hd:=rfl)|exact zAE rfl|exact zAD rfl|exact zDG rfl rfl|exact zBM rfl rfl|exact zAt rfl|exact zAj rfl|(apply zC3;exact rfl;(with_reducible first|exact zDu|exact zDu))|(apply zAV;exact rfl;(with_reducible exact zAg);exact rfl;exact rfl)|apply zAN|apply zAP|(apply res1;exact rfl)
  all_goals rfl
end Go.Proofs.YtblomnkamngnbaaGreatDoor
