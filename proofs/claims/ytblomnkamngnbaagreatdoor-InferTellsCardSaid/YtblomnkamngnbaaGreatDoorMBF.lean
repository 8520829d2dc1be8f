/- Texts of this claim, merged: InfI. -/
import Derived.Test.YtblomnkamngnbaaGreatDoorMAG
import Derived.Test.YtblomnkamngnbaaGreatDoorMBE
namespace Go.Proofs.YtblomnkamngnbaaGreatDoor
open Go.Sx
attribute [local irreducible] zAT Program.underlying Ylds zBA alex zBe zBP awp zAj zBZ zBk zA2 zBH zBR zA8 zBV zBb zBf zBu zBO zEL VCall
theorem zTx (A : List Int) (b : Int) (hL : A.length ≤ 2000000) : zBH Tryz.prog 72 [.buf 0 A.length,.d (i64 b)] [.buf true 3 1 (A.map ival)] (i64 (idxF A b)):=by
  refine zBx Tryz.func72 rfl Tryz.ntmps72 Tryz.results72 rfl ?_
  intro wb St0
  repeat' first | apply en_n|apply zAH|apply zAB|apply zAF|apply w0|apply ay (hd:=rfl)|exact zAE rfl|exact zAC rfl|exact zAw rfl|(apply zCu;exact rfl;(with_reducible exact zBw))|apply zAI
  refine zAr (α:=Nat) (fun i=>i ≤ A.length ∧ ∀ j,j < i → A[j]? ≠ some b) (fun i=>[(0,.buf 0 A.length),(1,.d (i64 b)),(7,.d (i64 (A.length : Int))),(8,.d (i64 (i : Int)))]) (fun _=>[.buf true 3 1 (A.map ival)]) (fun i=>A.length - i) 0 ⟨Nat.zero_le _,by omega⟩
      (zAO (zAA rfl (zAA rfl (Le_d rfl rfl (zAA rfl zAa)))) (zAu rfl rfl rfl zAN) rfl rfl) ?_
  rintro i ⟨hi1,hi2⟩
  rcases Nat.lt_or_ge i A.length with hlt | hge
  · have hx : A[i]? = some A[i]:=List.getElem?_eq_getElem hlt
    generalize A[i] = v at hx
    have hxm : (A.map ival)[((i : Nat) : Int).toNat]? = some (ival v):=by rw [Int.toNat_natCast,List.getElem?_map,hx];rfl
    have hml : A.length ≤ (A.map ival).length:=by rw [List.length_map];exact Nat.le_refl _
    by_cases hbv : b = v
    · skip
      repeat' first | apply en_n|apply zAH|apply zAB|apply zAF|apply w0|(apply zA5;exact rfl;exact rfl;first|assumption|omega)|(apply zBD;exact rfl;exact rfl;first|assumption|omega)|(refine zDi rfl rfl rfl zA7 ?_ ?_)|(refine zEN rfl zAs rfl hxm rfl)|apply ay (hd:=rfl)|exact zAE rfl|exact zAC rfl|exact zAw rfl|(apply zAK;exact rfl)|apply zAI|apply zAP|apply zAM|apply en_r|apply eb_r|apply zAJ|(apply res1;exact rfl)
      all_goals first | omega | assumption | skip
      subst hbv;rw [zJ1 hi2 hx]
    · skip
      repeat' first | apply en_n|apply zAH|apply zAB|apply zAF|apply w0|(apply zA5;exact rfl;exact rfl;first|assumption|omega)|(apply zA9;exact rfl;exact rfl;first|assumption|omega)|(refine zDi rfl rfl rfl zA7 ?_ ?_)|(refine zEN rfl zAs rfl hxm rfl)|apply ay (hd:=rfl)|exact zAE rfl|exact zAC rfl|(apply zBC;exact rfl;exact rfl)|exact zAw rfl|(apply zAK;exact rfl)|(apply zAQ;exact rfl)|apply zAI|apply zAP|apply eb_n
      all_goals first | omega | assumption | skip
      refine ⟨i + 1,⟨by omega,fun j hj=>?_⟩,by omega,zAO (zAA rfl (zAA rfl (zAA rfl (zAA rfl zAa)))) (zAu rfl rfl rfl zAN) rfl rfl⟩
      rcases Nat.lt_or_ge j i with h1 | h1
      · exact hi2 j h1
      · rw [show j = i by omega];intro h2;exact hbv (Option.some.inj (h2.symm.trans hx))
  · skip
    repeat' first | apply en_n|apply zAH|apply zAB|apply zAF|apply w0|(apply zBq;exact rfl;exact rfl;first|assumption|omega)|apply ay (hd:=rfl)|exact zAC rfl|(apply zAQ;exact rfl)|apply zAM|apply zAt|apply en_e|apply eb_e|apply zAJ|(apply res1;exact rfl)
    rw [zFh];intro h1
    obtain ⟨j,hj,h2⟩:=List.getElem_of_mem h1
    exact hi2 j (by omega) (by rw [List.getElem?_eq_getElem hj,h2])
theorem zOj (A : List Int) (b : Int) (hL : A.length ≤ 2000000) : zBH Tryz.prog 118 [.buf 0 A.length,.d (i64 b)] [.buf true 3 1 (A.map ival)] (bl (decide (b ∈ A))):=by
  have hi:=zTx A b hL
  refine zBx Tryz.func118 rfl Tryz.ntmps118 Tryz.results118 rfl ?_
  intro wb St0
  repeat' first | apply en_n|apply zAH|apply zAB|apply zAF|apply w0|(refine zBB [0] [] rfl rfl zGY (hi) rfl ?_ rfl (by decide) rfl rfl rfl rfl;(repeat (refine zAL rfl ?_));exact zAS)|apply ay (hd:=rfl)|exact zAE rfl|exact zAC rfl|exact zEU rfl rfl|exact zAw rfl|apply zAM|apply zAJ|(apply res1;exact rfl)
  by_cases h : b ∈ A
  · rw [decide_eq_true h];have:=zMF h;rw [decide_eq_true (show idxF A b ≥ 0 by omega)]
  · rw [decide_eq_false h,zFh h];rfl
set_option maxHeartbeats 1000000 in
theorem zSF (L : List Nd) (hL : L.length ≤ 2000000) : zBZ Tryz.prog 71 [zAc L] (zCh L).length 3 1 ((zCh L).map ival):=by
  refine zKI Tryz.func71 rfl Tryz.ntmps71 Tryz.results71 rfl (zCF fun _=>rfl) ?_
  intro wb St0
  repeat' first | apply en_n|apply zAH|apply zAB|apply zAF|apply w0|(refine zAV zCK (zCR L hL) (zAX rfl zAG))|apply ay (hd:=rfl)|exact zAE rfl|(apply zAl;exact rfl;(with_reducible exact zA0))|exact zEE rfl rfl|exact zAb rfl|(apply zAz;exact rfl;(intro hb);rotate_left;(intro hb);rotate_right)|apply zAI|apply zAP|apply zAM|apply en_r
  · have h0 : zCh L = []:=by
      unfold zCh;rw [if_neg];intro h;apply hb;rw [ckT,if_pos h]
    rw [h0]
    exact zGd ⟨_,rfl,.inl ⟨rfl,rfl,rfl⟩⟩
  · have hok : okT L = true:=by
      cases h : okT L with
      | true=>rfl
      | false=>exfalso;have:=hb;simp [ckT,h] at this
    have h4:=(zD7 hok).1
    refine zCI 3 true 3 1 rfl rfl ?_
    refine zAr (α:=Nat) (fun i=>i ≤ L.length) (fun i=>[(0,.d (zAc L)),(3,.buf 0 (zB3 (L.take i)).length),(9,.d (zAc L)),(10,.d (i64 (L.length : Int))),(11,.d (i64 (i : Int)))]) (fun i=>[.buf true 3 1 ((zB3 (L.take i)).map ival)]) (fun i=>L.length - i) 0 (Nat.zero_le _)
      (zAO (zAA rfl (zBt rfl rfl (zAA rfl (Le_d rfl rfl (zAA rfl zAa))))) (zAu rfl rfl rfl zAN) rfl rfl) ?_
    intro i hi
    have hbd:=zHc (L:=L) i hL
    repeat' first | apply en_n|apply zAH|apply zAB|apply zAF|apply w0|(apply k1u (hd:=rfl);exact rfl;exact rfl)|(refine zBB [0] [] rfl rfl zFL (zOj (zB3 (L.take i)) v.num hbd) rfl ?_ rfl (by decide) rfl rfl rfl rfl;(repeat (refine zAL rfl ?_));exact zAS)|(apply aApp (id:=0) (hd:=rfl) (hro:=rfl);exact rfl;exact rfl;exact zAk rfl;exact (by rw [List.length_map]);exact rfl;exact zC2;exact zA7;exact zIv;exact zHC;exact zCE rfl)|(apply aI (hd:=rfl);(first|exact zAk rfl|exact Co_bb rfl rfl rfl|exact Co_nn rfl);exact rfl;(with_reducible exact zAW);exact fun _=>rfl;rotate_left;intro v hv;rotate_right)|(apply zA4 (hd:=rfl) (hro:=rfl);(with_reducible exact zAp))|apply ay (hd:=rfl)|exact zAE rfl|(apply zAf;exact rfl;(with_reducible exact zAY);exact rfl)|exact zCT rfl rfl|exact zC6 rfl rfl|(apply zBC;exact rfl;exact rfl)|exact zBr rfl|exact zAi rfl rfl|exact zAh rfl rfl|exact zAw rfl|exact zAm rfl|(apply zAR;exact rfl;(with_reducible first|exact fn_0|exact fn_2))|(apply zAU;exact rfl;(with_reducible first|exact zAe|exact zBK);exact rfl;exact rfl)|(apply zCC;(with_reducible exact zC2);(with_reducible exact zA7);(with_reducible exact zIu);exact rfl;exact rfl;(first|exact zAX rfl zAG|exact zC4 rfl rfl rfl zAG|exact zDG rfl zAG);exact rfl)|(apply w1;exact rfl;exact rfl)|(apply gD;exact rfl;exact rfl;(intro hb);rotate_left;(intro hb);rotate_right)|(refine w0' ?_)|(apply zAx;exact rfl;exact rfl;exact rfl;(with_reducible exact zAY);exact rfl;exact rfl;exact rfl;exact rfl)|(apply zAz;exact rfl;(intro hb);rotate_left;(intro hb);rotate_right)|(apply zIl;exact rfl;(intro hb);rotate_left;(intro hb);rotate_right)|(apply zAQ;exact rfl)|apply zAI|apply zAP|apply zAM|apply zAt|apply en_e|apply eb_n|apply eb_e
    all_goals first | omega | skip
    · simp only [List.length_cons,List.length_nil];omega
    · have hk : v.kind = 31:=‹_›
      have e : zB3 (L.take (i + 1)) = zB3 (L.take i) ++ [v.num]:=by rw [zDx (i:=i) hv,addV,if_pos ⟨hk,hb⟩]
      exact ⟨i + 1,by omega,by omega,zAO (zAA rfl (zBt rfl (by rw [e];simp) (zAA rfl (zAA rfl (zAA rfl zAa))))) (zAu rfl rfl (by rw [e,List.map_append];rfl) zAN) rfl rfl⟩
    · have e : zB3 (L.take (i + 1)) = zB3 (L.take i):=by rw [zDx (i:=i) hv,addV,if_neg (fun h=>h.2 hb)]
      exact ⟨i + 1,by omega,by omega,zAO (zAA rfl (zBt rfl (by rw [e]) (zAA rfl (zAA rfl (zAA rfl zAa))))) (zAu rfl rfl (by rw [e]) zAN) rfl rfl⟩
    · have e : zB3 (L.take (i + 1)) = zB3 (L.take i):=by rw [zDx (i:=i) hv,addV,if_neg (fun h=>hb h.1)]
      exact ⟨i + 1,by omega,by omega,zAO (zAA rfl (zBt rfl (by rw [e]) (zAA rfl (zAA rfl (zAA rfl zAa))))) (zAu rfl rfl (by rw [e]) zAN) rfl rfl⟩
    · have e : zCh L = zB3 (L.take i):=by rw [zCh,if_pos hok,List.take_of_length_le (by omega)]
      rw [e]
      exact zGd ⟨_,rfl,.inr ⟨0,rfl,rfl⟩⟩
theorem zQu (A : List Int) (b : Int) (hL : A.length ≤ 1000000000) : zAj Tryz.prog 72 [zBm A,i64 b] (i64 (idxF A b)):=by
  refine zAd Tryz.func72 rfl Tryz.ntmps72 Tryz.results72 rfl ?_
  intro wb St0
  repeat' first | apply en_n|apply zAH|apply zAB|apply zAF|apply w0|apply ay (hd:=rfl)|exact zAE rfl|exact zAC rfl|(apply zAl;exact rfl;(with_reducible exact zBw))|apply zAI
  refine zAr (α:=Nat) (fun i=>i ≤ A.length ∧ ∀ j,j < i → A[j]? ≠ some b) (fun i=>[(0,.d (zBm A)),(1,.d (i64 b)),(7,.d (i64 (A.length : Int))),(8,.d (i64 (i : Int)))]) (fun _=>[]) (fun i=>A.length - i) 0 ⟨Nat.zero_le _,by omega⟩
      (zAO (zAA rfl (zAA rfl (Le_d rfl rfl (zAA rfl zAa)))) zAN rfl rfl) ?_
  rintro i ⟨hi1,hi2⟩
  repeat' first | apply en_n|apply zAH|apply zAB|apply zAF|apply w0|(apply aI (hd:=rfl);(first|exact zAk rfl|exact Co_bb rfl rfl rfl|exact Co_nn rfl);exact rfl;(with_reducible exact zA7);exact fun _=>rfl;rotate_left;intro v hv;rotate_right)|apply ay (hd:=rfl)|exact zAE rfl|exact zAC rfl|(apply zAg;exact rfl;(with_reducible exact zAs))|exact zCT rfl rfl|exact zC6 rfl rfl|(apply zBC;exact rfl;exact rfl)|(apply zAz;exact rfl;(intro hb);rotate_left;(intro hb);rotate_right)|apply zAI|apply zAP|apply zAM|apply zAt|apply en_r|apply en_e|apply eb_n|apply eb_r|apply eb_e|apply zAJ|(apply res1;exact rfl)
  · omega
  · subst hb;rw [zJ1 hi2 hv]
  · omega
  · refine ⟨i + 1,⟨by omega,fun j hj=>?_⟩,by omega,zAO (zAA rfl (zAA rfl (zAA rfl (zAA rfl zAa)))) zAN rfl rfl⟩
    rcases Nat.lt_or_ge j i with h1 | h1
    · exact hi2 j h1
    · rw [show j = i by omega];intro h2;exact hb (Option.some.inj (h2.symm.trans hv))
  · rw [zFh];intro h1
    obtain ⟨j,hj,h2⟩:=List.getElem_of_mem h1
    exact hi2 j (by omega) (by rw [List.getElem?_eq_getElem hj,h2])
theorem zLv (A : List Int) (b : Int) (hL : A.length ≤ 1000000000) : zAj Tryz.prog 118 [zBm A,i64 b] (bl (decide (b ∈ A))):=by
  refine zAd Tryz.func118 rfl Tryz.ntmps118 Tryz.results118 rfl ?_
  intro wb St0
  repeat' first | apply en_n|apply zAH|apply zAB|apply zAF|apply w0|(apply zAV (hb:=zGY) (hc:=zQu A b hL))|apply ay (hd:=rfl)|exact zAE rfl|exact zAC rfl|exact zEU rfl rfl|apply zAM|apply zAJ|(apply res1;exact rfl)|exact zAG|refine zAX rfl ?_
  by_cases h : b ∈ A
  · rw [decide_eq_true h];have:=zMF h;rw [decide_eq_true (show idxF A b ≥ 0 by omega)]
  · rw [decide_eq_false h,zFh h];rfl
abbrev bdO (b : List Int) : List Ob:=[.box [.buf 1 (b.map ival).length],.buf false 3 1 (b.map ival)]
theorem zQX (b : List Int) (hb : b.length ≤ 1000000000) (v : Int) : zBH Tryz.prog 117 [.d (i64 v),.ptr 0 0] (bdO b) (bl (decide (v ∈ b))):=by
  have hc:=zLv b v hb
  refine zBx Tryz.func117 rfl Tryz.ntmps117 Tryz.results117 rfl ?_
  intro wb St0
  repeat' first | apply en_n|apply zAH|apply zAB|apply zAF|apply w0|(refine zAV zFL hc (zC4 rfl rfl rfl (zAX rfl zAG)))|apply ay (hd:=rfl)|exact zAE rfl|exact zAC rfl|(apply zAU;exact rfl;(with_reducible exact zJh);exact rfl;exact rfl)|apply zAM|apply zAJ|(apply res1;exact rfl)
  rfl
abbrev dfO (xs : List D) (b : List Int) : List Ob:=[.buf true 3 1 xs,.box [.buf 2 (b.map ival).length],.buf false 3 1 (b.map ival)]
theorem zVI (vs b : List Int) (hv : vs.length ≤ 2000000) (hb : b.length ≤ 1000000000) :
    zBH Tryz.prog 135 [.buf 0 vs.length,.clo 117 [1]] (dfO (vs.map ival) b) (i64 (idxP (fun v=>decide (v ∈ b)) vs)):=by
  refine zBx Tryz.func135 rfl Tryz.ntmps135 Tryz.results135 rfl ?_
  intro wb St0
  repeat' first | apply en_n|apply zAH|apply zAB|apply zAF|apply w0|apply ay (hd:=rfl)|exact zAE rfl|exact zAC rfl|exact zAw rfl|(apply zCu;exact rfl;(with_reducible exact zBw))|apply zAI
  refine zAr (α:=Nat) (fun i=>i ≤ vs.length ∧ ∀ (j : Nat) u,j < i → vs[j]? = some u → decide (u ∈ b) = false) (fun i=>[(0,.buf 0 vs.length),(1,.clo 117 [1]),(7,.d (i64 (vs.length : Int))),(8,.d (i64 (i : Int)))]) (fun _=>dfO (vs.map ival) b) (fun i=>vs.length - i) 0 ⟨Nat.zero_le _,fun j u h=>by omega⟩
    (zAO (zAA rfl (zAA rfl (Le_d rfl rfl (zAA rfl zAa)))) (zAu rfl rfl rfl (zAD rfl rfl (zAu rfl rfl rfl zAN))) rfl rfl) ?_
  rintro i ⟨hi1,hi2⟩
  rcases Nat.lt_or_ge i vs.length with hlt | hge
  · have hx : vs[i]? = some vs[i]:=List.getElem?_eq_getElem hlt
    generalize vs[i] = v at hx
    have hxm : (vs.map ival)[((i : Nat) : Int).toNat]? = some (ival v):=by rw [Int.toNat_natCast,List.getElem?_map,hx];rfl
    have ha:=zQX b hb v
    skip
    repeat' first | apply en_n|apply zAH|apply zAB|apply zAF|apply w0|(apply zA5;exact rfl;exact rfl;first|assumption|omega)|exact zBF rfl|(refine zDi rfl rfl rfl zA7 ?_ ?_)|(refine zEN rfl zAs rfl hxm rfl)|(refine zBB [1,2] [0] rfl rfl zMI (ha) rfl ?_ rfl (by decide) rfl rfl rfl rfl;(repeat (refine zAL rfl ?_));exact zAS)|apply ay (hd:=rfl)|exact zAE rfl|exact zAC rfl|(apply zBC;exact rfl;exact rfl)|exact zAw rfl|(apply zAz;exact rfl;(intro hb);rotate_left;(intro hb);rotate_right)|(apply zAK;exact rfl)|apply zAI|apply zAP|apply zAM|apply en_r|apply eb_n|apply eb_r|apply zAJ|(apply res1;exact rfl)
    all_goals first | omega | skip
    · rw [List.length_map];exact Nat.le_refl _
    · exact zCr (zFi hi2 hx (decide_eq_true ‹_›)).symm
    · refine ⟨i + 1,⟨by omega,fun j u hj hu=>?_⟩,by omega,zAO (zAA rfl (zAA rfl (zAA rfl (zAA rfl zAa)))) (zAu rfl rfl rfl (zAD rfl rfl (zAu rfl rfl rfl zAN))) rfl rfl⟩
      rcases Nat.lt_or_ge j i with h1 | h1
      · exact hi2 j u h1 hu
      · rw [show j = i by omega,hx] at hu;injection hu with hu;subst hu;exact decide_eq_false ‹_›
  · skip
    repeat' first | apply en_n|apply zAH|apply zAB|apply zAF|apply w0|(apply zBq;exact rfl;exact rfl;first|assumption|omega)|apply ay (hd:=rfl)|exact zAC rfl|(apply zAQ;exact rfl)|apply zAM|apply zAt|apply en_e|apply eb_e|apply zAJ|(apply res1;exact rfl)
    exact zCr (zDg fun j u hu=>hi2 j u (by have:=(List.getElem?_eq_some_iff.1 hu).1;omega) hu).symm
def kept (vs b : List Int) : List Int:=vs.filter fun v=>!decide (v ∈ b)
theorem zFJ {vs b : List Int} {j : Nat} {v : Int} (h : vs[j]? = some v) : kept (vs.take (j + 1)) b = kept (vs.take j) b ++ (if v ∈ b then [] else [v]):=by
  unfold kept
  rw [List.take_add_one,h,Option.toList_some,List.filter_append]
  congr 1
  by_cases hv : v ∈ b <;> simp [hv]
theorem zNF (vs b : List Int) : (kept vs b).length ≤ vs.length:=List.length_filter_le _ _
theorem zK3 {vs b : List Int} (h : ∀ (j : Nat) u,vs[j]? = some u → decide (u ∈ b) = false) : kept vs b = vs:=by
  unfold kept
  refine List.filter_eq_self.2 fun u hu=>?_
  obtain ⟨j,hj⟩:=List.mem_iff_getElem?.1 hu
  rw [h j u hj];rfl
structure DfI (vs b : List Int) (j : Nat) (R : List Int) : Prop where
  len : R.length = vs.length
  k : (kept (vs.take j) b).length < j
  jl : j ≤ vs.length
  pre : R.take (kept (vs.take j) b).length = kept (vs.take j) b
  rest : ∀ i,j ≤ i → R[i]? = vs[i]?
theorem DfI.keep {vs b : List Int} {j : Nat} {R : List Int} (h : DfI vs b j R) {v : Int} (hv : vs[j]? = some v) (hb : v ∉ b) : DfI vs b (j + 1) (R.set (kept (vs.take j) b).length v):=by
  have e:=zFJ (b:=b) hv
  rw [if_neg hb] at e
  have hk:=h.k
  have hj:=(List.getElem?_eq_some_iff.1 hv).1
  refine ⟨by rw [List.length_set];exact h.len,by rw [e];simp;omega,hj,?_,fun i hi=>?_⟩
  · rw [e,List.length_append,List.length_singleton,List.take_add_one,List.getElem?_set_self (by rw [h.len];omega),List.take_set_of_le (Nat.le_refl _),h.pre];rfl
  · rw [List.getElem?_set_ne (by omega)];exact h.rest i (by omega)
theorem DfI.drop {vs b : List Int} {j : Nat} {R : List Int} (h : DfI vs b j R) {v : Int} (hv : vs[j]? = some v) (hb : v ∈ b) : DfI vs b (j + 1) R:=by
  have e:=zFJ (b:=b) hv
  rw [if_pos hb,List.append_nil] at e
  have hk:=h.k
  have hj:=(List.getElem?_eq_some_iff.1 hv).1
  exact ⟨h.len,by rw [e];omega,hj,by rw [e];exact h.pre,fun i hi=>h.rest i (by omega)⟩
theorem DfI.start {vs b : List Int} {i : Nat} {v : Int} (hi : vs[i]? = some v) (hv : v ∈ b) (hn : ∀ (j : Nat) u,j < i → vs[j]? = some u → decide (u ∈ b) = false) : DfI vs b (i + 1) vs ∧ (kept (vs.take (i + 1)) b).length = i:=by
  have e:=zFJ (b:=b) hi
  rw [if_pos hv,List.append_nil] at e
  have hl:=(List.getElem?_eq_some_iff.1 hi).1
  have e2 : kept (vs.take i) b = vs.take i:=zK3 fun j u hu=>by
    rw [List.getElem?_take] at hu
    split at hu
    · exact hn j u ‹_› hu
    · cases hu
  have e3 : (kept (vs.take (i + 1)) b).length = i:=by rw [e,e2,List.length_take];omega
  exact ⟨⟨rfl,by omega,hl,by rw [e3,e,e2],fun _ _=>rfl⟩,e3⟩
theorem zOH {α : Type} {p : α → Bool} {L : List α} : (idxP p L = -1 ∧ ∀ (j : Nat) u,L[j]? = some u → p u = false) ∨ ∃ (i : Nat) (v : α),idxP p L = i ∧ L[i]? = some v ∧ p v = true ∧ ∀ (j : Nat) u,j < i → L[j]? = some u → p u = false:=by
  cases h : L.findIdx? p with
  | none =>
    rw [List.findIdx?_eq_none_iff] at h
    exact .inl ⟨zDg fun j u hu=>h u (List.mem_of_getElem? hu),fun j u hu=>h u (List.mem_of_getElem? hu)⟩
  | some i =>
    obtain ⟨h1,h2,h3⟩:=List.findIdx?_eq_some_iff_getElem.1 h
    refine .inr ⟨i,L[i],by rw [idxP,h],List.getElem?_eq_getElem h1,h2,fun j u hj hu=>?_⟩
    obtain ⟨h4,rfl⟩:=List.getElem?_eq_some_iff.1 hu
    simpa using h3 j hj
set_option maxHeartbeats 2000000 in
theorem zTz (vs b : List Int) (hv : vs.length ≤ 1000000) (hb : b.length ≤ 1000000000) :
    zA2 Tryz.prog 116 [.buf 0 vs.length,.clo 117 [1]] (dfO (vs.map ival) b) (.buf 0 (kept vs b).length) (dfO ((kept vs b).map ival ++ List.replicate (vs.length - (kept vs b).length) (ival 0)) b):=by
  have hix:=zVI vs b (by omega) (by omega)
  rcases zOH (p:=fun v=>decide (v ∈ b)) (L:=vs) with ⟨h1,h2⟩ | ⟨i,v,h1,h2,h3,h4⟩
  · rw [zK3 h2,Nat.sub_self,List.replicate_zero,List.append_nil]
    rw [h1] at hix
    refine zA1 Tryz.func116 rfl Tryz.ntmps116 Tryz.results116 rfl rfl rfl ?_
    intro wb St0 X fx
    repeat' first | apply en_n|apply zAH|apply zAB|apply zAF|apply w0|(apply zBD;exact rfl;exact rfl;first|assumption|omega)|exact zBF rfl|(refine zBB [0,1,2] [] rfl rfl zSc (hix) rfl ?_ rfl (by decide) rfl rfl rfl rfl;(repeat (refine zAL rfl ?_));exact zAS)|apply ay (hd:=rfl)|exact zAE rfl|exact zAC rfl|exact zAb rfl|exact zAw rfl|exact zAm rfl|(apply zAK;exact rfl)|apply zAM|apply en_r
    exact zAq (zAO (zAA rfl zAa) (zAu rfl rfl rfl (zAD rfl rfl (zAu rfl rfl rfl zAN))) rfl rfl)
  · rw [h1] at hix
    have h3 : v ∈ b:=by simpa using h3
    obtain ⟨hI0,hI1⟩:=DfI.start h2 h3 h4
    have hil:=(List.getElem?_eq_some_iff.1 h2).1
    clear h1 h4
    refine zA1 Tryz.func116 rfl Tryz.ntmps116 Tryz.results116 rfl rfl rfl ?_
    intro wb St0 X fx
    repeat' first | apply en_n|apply zAH|apply zAB|apply zAF|apply w0|(apply zA9;exact rfl;exact rfl;first|assumption|omega)|exact zBF rfl|(refine zBB [0,1,2] [] rfl rfl zSc (hix) rfl ?_ rfl (by decide) rfl rfl rfl rfl;(repeat (refine zAL rfl ?_));exact zAS)|apply ay (hd:=rfl)|exact zAE rfl|exact zAC rfl|(apply zBC;exact rfl;exact rfl)|exact zAb rfl|exact zAw rfl|(apply zAQ;exact rfl)|apply zAI|apply zAP
    all_goals first | omega | skip
    refine zAr (α:=Nat × List Int) (fun p=>DfI vs b p.1 p.2) (fun p=>[(0,.buf 0 vs.length),(1,.clo 117 [1]),(5,.d (i64 ((kept (vs.take p.1) b).length : Int))),(6,.d (i64 (p.1 : Int)))]) (fun p=>anch fx 0 (dfO (vs.map ival) b) (dfO (p.2.map ival) b)) (fun p=>vs.length - p.1) (i + 1,vs) hI0
      (zAO (zAA rfl (zAA rfl (Le_d rfl (by rw [hI1]) (Le_d rfl (by simp) zAa)))) (zAu rfl rfl rfl (zAD rfl rfl (zAu rfl rfl rfl zAN))) rfl rfl) ?_
    rintro ⟨j,R⟩ hI
    dsimp only at hI ⊢
    have hk:=hI.k
    have hj:=hI.jl
    have hRl:=hI.len
    rcases Nat.lt_or_ge j vs.length with hlt | hge
    · have hx : vs[j]? = some vs[j]:=List.getElem?_eq_getElem hlt
      generalize vs[j] = u at hx
      have hxm : (R.map ival)[((j : Nat) : Int).toNat]? = some (ival u):=by rw [Int.toNat_natCast,List.getElem?_map,hI.rest j (Nat.le_refl _),hx];rfl
      have hml : vs.length ≤ (R.map ival).length:=by rw [List.length_map];omega
      have ha:=zQX b (by omega) u
      by_cases hub : u ∈ b
      · rw [decide_eq_true hub] at ha
        skip
        repeat' first | apply en_n|apply zAH|apply zAB|apply zAF|apply w0|(apply zA5;exact rfl;exact rfl;first|assumption|omega)|exact zBF rfl|(refine zDi rfl rfl rfl zA7 ?_ ?_)|(refine zEN rfl zAs rfl hxm rfl)|(refine zBB [1,2] [0] rfl rfl zMI (ha) rfl ?_ rfl (by decide) rfl rfl rfl rfl;(repeat (refine zAL rfl ?_));exact zAS)|apply ay (hd:=rfl)|exact zAE rfl|exact zAC rfl|(apply zBC;exact rfl;exact rfl)|exact zBr rfl|exact zAw rfl|(apply zCu;exact rfl;(with_reducible exact zBw))|(apply zAK;exact rfl)|(apply zAQ;exact rfl)|apply zAI|apply zAP|apply eb_n
        all_goals first | omega | assumption | skip
        have e:=zFJ (b:=b) hx
        rw [if_pos hub,List.append_nil] at e
        exact ⟨(j + 1,R),hI.drop hx hub,by show vs.length - (j + 1) < _;omega,zAO (zAA rfl (zAA rfl (Le_d rfl (by rw [e]) (zAA rfl zAa)))) (zAu rfl rfl rfl (zAD rfl rfl (zAu rfl rfl rfl zAN))) rfl rfl⟩
      · rw [decide_eq_false hub] at ha
        have hkl : (kept (vs.take j) b).length < vs.length:=by omega
        skip
        repeat' first | apply en_n|apply zAH|apply zAB|apply zAF|apply w0|(apply zA5;exact rfl;exact rfl;first|assumption|omega)|exact zBF rfl|(refine zDi rfl rfl rfl zA7 ?_ ?_)|(refine zEN rfl zAs rfl hxm rfl)|(refine zBB [1,2] [0] rfl rfl zMI (ha) rfl ?_ rfl (by decide) rfl rfl rfl rfl;(repeat (refine zAL rfl ?_));exact zAS)|(refine zMW rfl rfl rfl zAs rfl rfl ?_ rfl ?_)|apply ay (hd:=rfl)|exact zAE rfl|exact zAC rfl|(apply zBC;exact rfl;exact rfl)|exact zBr rfl|exact zAw rfl|(apply zCu;exact rfl;(with_reducible exact zBw))|(refine w0' ?_)|(apply zAK;exact rfl)|apply zAI|apply zAP|apply eb_n
        all_goals first | omega | assumption | skip
        have e:=zFJ (b:=b) hx
        rw [if_neg hub] at e
        exact ⟨(j + 1,R.set (kept (vs.take j) b).length u),hI.keep hx hub,by show vs.length - (j + 1) < _;omega,zAO (zAA rfl (zAA rfl (Le_d rfl (by rw [e];simp) (zAA rfl zAa)))) (zAu rfl rfl (by rw [List.map_set,Int.toNat_natCast]) (zAD rfl rfl (zAu rfl rfl rfl zAN))) rfl rfl⟩
    · have e1 : vs.take j = vs:=List.take_of_length_le hge
      have hm1 : vs.length = (R.map ival).length:=by rw [List.length_map];omega
      have hk1 : (kept (vs.take j) b).length < vs.length:=by omega
      have hkb:=zNF vs b
      have hes : (zBG Tryz.prog 52).isSome = true:=by rw [zA7];rfl
      have hpre : (R.map ival).take (kept (vs.take j) b).length = (kept (vs.take j) b).map ival:=by rw [← List.map_take,hI.pre]
      skip
      repeat' first | (apply zMX (z:=.int .i64 0) (xs:=R.map ival);exact rfl;exact rfl;exact rfl;exact hm1;exact hk1;(with_reducible exact zA7);(with_reducible exact zC2);(with_reducible exact zSu);exact rfl;exact rfl)|apply en_n|apply zAH|apply zAB|apply zAF|apply w0|(apply zBq;exact rfl;exact rfl;first|assumption|omega)|(refine zQf rfl hes rfl ?_ ⟨_,_,_,_,rfl,?_⟩)|apply ay (hd:=rfl)|exact zAE rfl|exact zAw rfl|exact zAm rfl|(apply zCu;exact rfl;(with_reducible exact zBw))|(apply zAQ;exact rfl)|apply zAM|apply zAt|apply en_e|apply eb_e
      all_goals first | omega | assumption | skip
      · simp only [List.length_append,List.length_take,List.length_replicate,List.length_map];omega
      · rw [e1] at hpre
        exact zAq (zAO (zBt rfl (by rw [e1,Int.toNat_natCast]) zAa) (zAu rfl rfl (by rw [e1,hpre];rfl) (zAD rfl rfl (zAu rfl rfl rfl zAN))) rfl rfl)
end Go.Proofs.YtblomnkamngnbaaGreatDoor
