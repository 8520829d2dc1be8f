/- Texts of this claim, merged: InfI. -/
import Derived.Test.YtblomnkamngnbaaGreatDoorMAE
import Derived.Test.YtblomnkamngnbaaGreatDoorMBG
namespace Go.Proofs.YtblomnkamngnbaaGreatDoor
open Go.Sx
attribute [local irreducible] zAO Program.underlying Ylds zA3 alex zBY zBN awp zAm zBT zBe zAx zBA zBP zA2 zBR zBX zBa zBq zBI zET VCall
theorem zU3 (A : List Int) (b : Int) (hL : A.length ≤ 2000000) : zBA Tryz.prog 72 [.buf 0 A.length,.d (i64 b)] [.buf true 3 1 (A.map ival)] (i64 (idxF A b)):=by
  refine zBw Tryz.func72 rfl Tryz.ntmps72 Tryz.results72 rfl ?_
  intro wb St0
  repeat' first | apply en_n|apply zAH|apply zAC|apply zAF|apply w0|apply ay (hd:=rfl)|exact zAE rfl|exact zAD rfl|exact zAt rfl|(apply zC3;exact rfl;(with_reducible exact zCU))|apply zAJ
  refine zAs (α:=Nat) (fun i=>i ≤ A.length ∧ ∀ j,j < i → A[j]? ≠ some b) (fun i=>[(0,.buf 0 A.length),(1,.d (i64 b)),(7,.d (i64 (A.length : Int))),(8,.d (i64 (i : Int)))]) (fun _=>[.buf true 3 1 (A.map ival)]) (fun i=>A.length - i) 0 ⟨Nat.zero_le _,by omega⟩
      (zAL (zAA rfl (zAA rfl (Le_d rfl rfl (zAA rfl zAW)))) (zAl rfl rfl rfl zAK) rfl rfl) ?_
  rintro i ⟨hi1,hi2⟩
  rcases Nat.lt_or_ge i A.length with hlt | hge
  · have hx : A[i]? = some A[i]:=List.getElem?_eq_getElem hlt
    generalize A[i] = v at hx
    have hxm : (A.map ival)[((i : Nat) : Int).toNat]? = some (ival v):=by rw [Int.toNat_natCast,List.getElem?_map,hx];rfl
    have hml : A.length ≤ (A.map ival).length:=by rw [List.length_map];exact Nat.le_refl _
    by_cases hbv : b = v
    · skip
      repeat' first | apply en_n|apply zAH|apply zAC|apply zAF|apply w0|(apply zBK;exact rfl;exact rfl;first|assumption|omega)|(apply zBV;exact rfl;exact rfl;first|assumption|omega)|(refine zDq rfl rfl rfl zBD ?_ ?_)|(refine zEY rfl zAz rfl hxm rfl)|apply ay (hd:=rfl)|exact zAE rfl|exact zAD rfl|exact zAt rfl|(apply zAQ;exact rfl)|apply zAJ|apply zAT|apply zAN|apply en_r|apply eb_r|apply zAP|(apply res1;exact rfl)
      all_goals first | omega | assumption | skip
      subst hbv;rw [zKI hi2 hx]
    · skip
      repeat' first | apply en_n|apply zAH|apply zAC|apply zAF|apply w0|(apply zBK;exact rfl;exact rfl;first|assumption|omega)|(apply zBW;exact rfl;exact rfl;first|assumption|omega)|(refine zDq rfl rfl rfl zBD ?_ ?_)|(refine zEY rfl zAz rfl hxm rfl)|apply ay (hd:=rfl)|exact zAE rfl|exact zAD rfl|(apply zBG;exact rfl;exact rfl)|exact zAt rfl|(apply zAQ;exact rfl)|(apply zAU;exact rfl)|apply zAJ|apply zAT|apply eb_n
      all_goals first | omega | assumption | skip
      refine ⟨i + 1,⟨by omega,fun j hj=>?_⟩,by omega,zAL (zAA rfl (zAA rfl (zAA rfl (zAA rfl zAW)))) (zAl rfl rfl rfl zAK) rfl rfl⟩
      rcases Nat.lt_or_ge j i with h1 | h1
      · exact hi2 j h1
      · rw [show j = i by omega];intro h2;exact hbv (Option.some.inj (h2.symm.trans hx))
  · skip
    repeat' first | apply en_n|apply zAH|apply zAC|apply zAF|apply w0|(apply zCJ;exact rfl;exact rfl;first|assumption|omega)|apply ay (hd:=rfl)|exact zAD rfl|(apply zAU;exact rfl)|apply zAN|apply zAu|apply en_e|apply eb_e|apply zAP|(apply res1;exact rfl)
    rw [zF4];intro h1
    obtain ⟨j,hj,h2⟩:=List.getElem_of_mem h1
    exact hi2 j (by omega) (by rw [List.getElem?_eq_getElem hj,h2])
theorem zPO (A : List Int) (b : Int) (hL : A.length ≤ 2000000) : zBA Tryz.prog 118 [.buf 0 A.length,.d (i64 b)] [.buf true 3 1 (A.map ival)] (bl (decide (b ∈ A))):=by
  have hi:=zU3 A b hL
  refine zBw Tryz.func118 rfl Tryz.ntmps118 Tryz.results118 rfl ?_
  intro wb St0
  repeat' first | apply en_n|apply zAH|apply zAC|apply zAF|apply w0|(refine zA6 [0] [] rfl rfl zGy (hi) rfl ?_ rfl (by decide) rfl rfl rfl rfl;(repeat (refine zAI rfl ?_));exact zAM)|apply ay (hd:=rfl)|exact zAE rfl|exact zAD rfl|exact zFp rfl rfl|exact zAt rfl|apply zAN|apply zAP|(apply res1;exact rfl)
  by_cases h : b ∈ A
  · rw [decide_eq_true h];have:=zMn h;rw [decide_eq_true (show idxF A b ≥ 0 by omega)]
  · rw [decide_eq_false h,zF4 h];rfl
set_option maxHeartbeats 1000000 in
theorem zTL (L : List Nd) (hL : L.length ≤ 2000000) : zBT Tryz.prog 71 [zAc L] (zBb L).length 3 1 ((zBb L).map ival):=by
  refine zKc Tryz.func71 rfl Tryz.ntmps71 Tryz.results71 rfl (zCc fun _=>rfl) ?_
  intro wb St0
  repeat' first | apply en_n|apply zAH|apply zAC|apply zAF|apply w0|(refine zAX zCR (zCb L hL) (zAZ rfl zAG))|apply ay (hd:=rfl)|exact zAE rfl|(apply zAr;exact rfl;(with_reducible exact zA7))|exact zJD rfl rfl|exact zAY rfl|(apply zA1;exact rfl;(intro hb);rotate_left;(intro hb);rotate_right)|apply zAJ|apply zAT|apply zAN|apply en_r
  · have h0 : zBb L = []:=by
      unfold zBb;rw [if_neg];intro h;apply hb;rw [ckT,if_pos h]
    rw [h0]
    exact zGz ⟨_,rfl,.inl ⟨rfl,rfl,rfl⟩⟩
  · have hok : okT L = true:=by
      cases h : okT L with
      | true=>rfl
      | false=>exfalso;have:=hb;simp [ckT,h] at this
    have h4:=(zDJ hok).1
    refine zCO 3 true 3 1 rfl rfl ?_
    refine zAs (α:=Nat) (fun i=>i ≤ L.length) (fun i=>[(0,.d (zAc L)),(3,.buf 0 (zBu (L.take i)).length),(9,.d (zAc L)),(10,.d (i64 (L.length : Int))),(11,.d (i64 (i : Int)))]) (fun i=>[.buf true 3 1 ((zBu (L.take i)).map ival)]) (fun i=>L.length - i) 0 (Nat.zero_le _)
      (zAL (zAA rfl (zBs rfl rfl (zAA rfl (Le_d rfl rfl (zAA rfl zAW))))) (zAl rfl rfl rfl zAK) rfl rfl) ?_
    intro i hi
    have hbd:=zHq (L:=L) i hL
    repeat' first | apply en_n|apply zAH|apply zAC|apply zAF|apply w0|(apply k1u (hd:=rfl);exact rfl;exact rfl)|(refine zA6 [0] [] rfl rfl zFf (zPO (zBu (L.take i)) v.num hbd) rfl ?_ rfl (by decide) rfl rfl rfl rfl;(repeat (refine zAI rfl ?_));exact zAM)|(apply aApp (id:=0) (hd:=rfl) (hro:=rfl);exact rfl;exact rfl;exact zAn rfl;exact (by rw [List.length_map]);exact rfl;exact zDh;exact zBD;exact zKv;exact zI0;exact zCP rfl)|(apply aI (hd:=rfl);(first|exact zAn rfl|exact Co_bb rfl rfl rfl|exact Co_nn rfl);exact rfl;(with_reducible exact zAa);exact fun _=>rfl;rotate_left;intro v hv;rotate_right)|(apply zBE (hd:=rfl) (hro:=rfl);(with_reducible exact zAp))|apply ay (hd:=rfl)|exact zAE rfl|(apply zAf;exact rfl;(with_reducible exact zAb);exact rfl)|exact zDG rfl rfl|exact zD7 rfl rfl|(apply zBG;exact rfl;exact rfl)|exact zCS rfl|exact zAq rfl rfl|exact zAo rfl rfl|exact zAt rfl|exact zAj rfl|(apply zAS;exact rfl;(with_reducible first|exact fn_0|exact fn_2))|(apply zAV;exact rfl;(with_reducible first|exact zAk|exact zB4);exact rfl;exact rfl)|(apply zCD;(with_reducible exact zDh);(with_reducible exact zBD);(with_reducible exact zNE);exact rfl;exact rfl;(first|exact zAZ rfl zAG|exact zCo rfl rfl rfl zAG|exact zCs rfl zAG);exact rfl)|(apply w1;exact rfl;exact rfl)|(apply gD;exact rfl;exact rfl;(intro hb);rotate_left;(intro hb);rotate_right)|(refine w0' ?_)|(apply zA0;exact rfl;exact rfl;exact rfl;(with_reducible exact zAb);exact rfl;exact rfl;exact rfl;exact rfl)|(apply zA1;exact rfl;(intro hb);rotate_left;(intro hb);rotate_right)|(apply zMH;exact rfl;(intro hb);rotate_left;(intro hb);rotate_right)|(apply zAU;exact rfl)|apply zAJ|apply zAT|apply zAN|apply zAu|apply en_e|apply eb_n|apply eb_e
    all_goals first | omega | skip
    · simp only [List.length_cons,List.length_nil];omega
    · have hk : v.kind = 31:=‹_›
      have e : zBu (L.take (i + 1)) = zBu (L.take i) ++ [v.num]:=by rw [zD9 (i:=i) hv,addV,if_pos ⟨hk,hb⟩]
      exact ⟨i + 1,by omega,by omega,zAL (zAA rfl (zBs rfl (by rw [e];simp) (zAA rfl (zAA rfl (zAA rfl zAW))))) (zAl rfl rfl (by rw [e,List.map_append];rfl) zAK) rfl rfl⟩
    · have e : zBu (L.take (i + 1)) = zBu (L.take i):=by rw [zD9 (i:=i) hv,addV,if_neg (fun h=>h.2 hb)]
      exact ⟨i + 1,by omega,by omega,zAL (zAA rfl (zBs rfl (by rw [e]) (zAA rfl (zAA rfl (zAA rfl zAW))))) (zAl rfl rfl (by rw [e]) zAK) rfl rfl⟩
    · have e : zBu (L.take (i + 1)) = zBu (L.take i):=by rw [zD9 (i:=i) hv,addV,if_neg (fun h=>hb h.1)]
      exact ⟨i + 1,by omega,by omega,zAL (zAA rfl (zBs rfl (by rw [e]) (zAA rfl (zAA rfl (zAA rfl zAW))))) (zAl rfl rfl (by rw [e]) zAK) rfl rfl⟩
    · have e : zBb L = zBu (L.take i):=by rw [zBb,if_pos hok,List.take_of_length_le (by omega)]
      rw [e]
      exact zGz ⟨_,rfl,.inr ⟨0,rfl,rfl⟩⟩
theorem zRp (A : List Int) (b : Int) (hL : A.length ≤ 1000000000) : zAm Tryz.prog 72 [zBv A,i64 b] (i64 (idxF A b)):=by
  refine zAd Tryz.func72 rfl Tryz.ntmps72 Tryz.results72 rfl ?_
  intro wb St0
  repeat' first | apply en_n|apply zAH|apply zAC|apply zAF|apply w0|apply ay (hd:=rfl)|exact zAE rfl|exact zAD rfl|(apply zAr;exact rfl;(with_reducible exact zCU))|apply zAJ
  refine zAs (α:=Nat) (fun i=>i ≤ A.length ∧ ∀ j,j < i → A[j]? ≠ some b) (fun i=>[(0,.d (zBv A)),(1,.d (i64 b)),(7,.d (i64 (A.length : Int))),(8,.d (i64 (i : Int)))]) (fun _=>[]) (fun i=>A.length - i) 0 ⟨Nat.zero_le _,by omega⟩
      (zAL (zAA rfl (zAA rfl (Le_d rfl rfl (zAA rfl zAW)))) zAK rfl rfl) ?_
  rintro i ⟨hi1,hi2⟩
  repeat' first | apply en_n|apply zAH|apply zAC|apply zAF|apply w0|(apply aI (hd:=rfl);(first|exact zAn rfl|exact Co_bb rfl rfl rfl|exact Co_nn rfl);exact rfl;(with_reducible exact zBD);exact fun _=>rfl;rotate_left;intro v hv;rotate_right)|apply ay (hd:=rfl)|exact zAE rfl|exact zAD rfl|(apply zAi;exact rfl;(with_reducible exact zAz))|exact zDG rfl rfl|exact zD7 rfl rfl|(apply zBG;exact rfl;exact rfl)|(apply zA1;exact rfl;(intro hb);rotate_left;(intro hb);rotate_right)|apply zAJ|apply zAT|apply zAN|apply zAu|apply en_r|apply en_e|apply eb_n|apply eb_r|apply eb_e|apply zAP|(apply res1;exact rfl)
  · omega
  · subst hb;rw [zKI hi2 hv]
  · omega
  · refine ⟨i + 1,⟨by omega,fun j hj=>?_⟩,by omega,zAL (zAA rfl (zAA rfl (zAA rfl (zAA rfl zAW)))) zAK rfl rfl⟩
    rcases Nat.lt_or_ge j i with h1 | h1
    · exact hi2 j h1
    · rw [show j = i by omega];intro h2;exact hb (Option.some.inj (h2.symm.trans hv))
  · rw [zF4];intro h1
    obtain ⟨j,hj,h2⟩:=List.getElem_of_mem h1
    exact hi2 j (by omega) (by rw [List.getElem?_eq_getElem hj,h2])
theorem zMR (A : List Int) (b : Int) (hL : A.length ≤ 1000000000) : zAm Tryz.prog 118 [zBv A,i64 b] (bl (decide (b ∈ A))):=by
  refine zAd Tryz.func118 rfl Tryz.ntmps118 Tryz.results118 rfl ?_
  intro wb St0
  repeat' first | apply en_n|apply zAH|apply zAC|apply zAF|apply w0|(apply zAX (hb:=zGy) (hc:=zRp A b hL))|apply ay (hd:=rfl)|exact zAE rfl|exact zAD rfl|exact zFp rfl rfl|apply zAN|apply zAP|(apply res1;exact rfl)|exact zAG|refine zAZ rfl ?_
  by_cases h : b ∈ A
  · rw [decide_eq_true h];have:=zMn h;rw [decide_eq_true (show idxF A b ≥ 0 by omega)]
  · rw [decide_eq_false h,zF4 h];rfl
abbrev bdO (b : List Int) : List Ob:=[.box [.buf 1 (b.map ival).length],.buf false 3 1 (b.map ival)]
theorem zRR (b : List Int) (hb : b.length ≤ 1000000000) (v : Int) : zBA Tryz.prog 117 [.d (i64 v),.ptr 0 0] (bdO b) (bl (decide (v ∈ b))):=by
  have hc:=zMR b v hb
  refine zBw Tryz.func117 rfl Tryz.ntmps117 Tryz.results117 rfl ?_
  intro wb St0
  repeat' first | apply en_n|apply zAH|apply zAC|apply zAF|apply w0|(refine zAX zFf hc (zCo rfl rfl rfl (zAZ rfl zAG)))|apply ay (hd:=rfl)|exact zAE rfl|exact zAD rfl|(apply zAV;exact rfl;(with_reducible exact zJw);exact rfl;exact rfl)|apply zAN|apply zAP|(apply res1;exact rfl)
  rfl
abbrev dfO (xs : List D) (b : List Int) : List Ob:=[.buf true 3 1 xs,.box [.buf 2 (b.map ival).length],.buf false 3 1 (b.map ival)]
theorem zWJ (vs b : List Int) (hv : vs.length ≤ 2000000) (hb : b.length ≤ 1000000000) :
    zBA Tryz.prog 135 [.buf 0 vs.length,.clo 117 [1]] (dfO (vs.map ival) b) (i64 (idxP (fun v=>decide (v ∈ b)) vs)):=by
  refine zBw Tryz.func135 rfl Tryz.ntmps135 Tryz.results135 rfl ?_
  intro wb St0
  repeat' first | apply en_n|apply zAH|apply zAC|apply zAF|apply w0|apply ay (hd:=rfl)|exact zAE rfl|exact zAD rfl|exact zAt rfl|(apply zC3;exact rfl;(with_reducible exact zCU))|apply zAJ
  refine zAs (α:=Nat) (fun i=>i ≤ vs.length ∧ ∀ (j : Nat) u,j < i → vs[j]? = some u → decide (u ∈ b) = false) (fun i=>[(0,.buf 0 vs.length),(1,.clo 117 [1]),(7,.d (i64 (vs.length : Int))),(8,.d (i64 (i : Int)))]) (fun _=>dfO (vs.map ival) b) (fun i=>vs.length - i) 0 ⟨Nat.zero_le _,fun j u h=>by omega⟩
    (zAL (zAA rfl (zAA rfl (Le_d rfl rfl (zAA rfl zAW)))) (zAl rfl rfl rfl (zAB rfl rfl (zAl rfl rfl rfl zAK))) rfl rfl) ?_
  rintro i ⟨hi1,hi2⟩
  rcases Nat.lt_or_ge i vs.length with hlt | hge
  · have hx : vs[i]? = some vs[i]:=List.getElem?_eq_getElem hlt
    generalize vs[i] = v at hx
    have hxm : (vs.map ival)[((i : Nat) : Int).toNat]? = some (ival v):=by rw [Int.toNat_natCast,List.getElem?_map,hx];rfl
    have ha:=zRR b hb v
    skip
    repeat' first | apply en_n|apply zAH|apply zAC|apply zAF|apply w0|(apply zBK;exact rfl;exact rfl;first|assumption|omega)|exact zA8 rfl|(refine zDq rfl rfl rfl zBD ?_ ?_)|(refine zEY rfl zAz rfl hxm rfl)|(refine zA6 [1,2] [0] rfl rfl zMr (ha) rfl ?_ rfl (by decide) rfl rfl rfl rfl;(repeat (refine zAI rfl ?_));exact zAM)|apply ay (hd:=rfl)|exact zAE rfl|exact zAD rfl|(apply zBG;exact rfl;exact rfl)|exact zAt rfl|(apply zA1;exact rfl;(intro hb);rotate_left;(intro hb);rotate_right)|(apply zAQ;exact rfl)|apply zAJ|apply zAT|apply zAN|apply en_r|apply eb_n|apply eb_r|apply zAP|(apply res1;exact rfl)
    all_goals first | omega | skip
    · rw [List.length_map];exact Nat.le_refl _
    · exact zDm (zF5 hi2 hx (decide_eq_true ‹_›)).symm
    · refine ⟨i + 1,⟨by omega,fun j u hj hu=>?_⟩,by omega,zAL (zAA rfl (zAA rfl (zAA rfl (zAA rfl zAW)))) (zAl rfl rfl rfl (zAB rfl rfl (zAl rfl rfl rfl zAK))) rfl rfl⟩
      rcases Nat.lt_or_ge j i with h1 | h1
      · exact hi2 j u h1 hu
      · rw [show j = i by omega,hx] at hu;injection hu with hu;subst hu;exact decide_eq_false ‹_›
  · skip
    repeat' first | apply en_n|apply zAH|apply zAC|apply zAF|apply w0|(apply zCJ;exact rfl;exact rfl;first|assumption|omega)|apply ay (hd:=rfl)|exact zAD rfl|(apply zAU;exact rfl)|apply zAN|apply zAu|apply en_e|apply eb_e|apply zAP|(apply res1;exact rfl)
    exact zDm (zDl fun j u hu=>hi2 j u (by have:=(List.getElem?_eq_some_iff.1 hu).1;omega) hu).symm
def kept (vs b : List Int) : List Int:=vs.filter fun v=>!decide (v ∈ b)
theorem zFd {vs b : List Int} {j : Nat} {v : Int} (h : vs[j]? = some v) : kept (vs.take (j + 1)) b = kept (vs.take j) b ++ (if v ∈ b then [] else [v]):=by
  unfold kept
  rw [List.take_add_one,h,Option.toList_some,List.filter_append]
  congr 1
  by_cases hv : v ∈ b <;> simp [hv]
theorem zNt (vs b : List Int) : (kept vs b).length ≤ vs.length:=List.length_filter_le _ _
theorem zLU {vs b : List Int} (h : ∀ (j : Nat) u,vs[j]? = some u → decide (u ∈ b) = false) : kept vs b = vs:=by
  unfold kept
  refine List.filter_eq_self.2 fun u hu=>?_
  obtain ⟨j,hj⟩:=List.mem_iff_getElem?.1 hu
  rw [h j u hj];rfl
structure DfI (vs b : List Int) (j : Nat) (R : List Int) : Prop where
  len : R.length = vs.length
  k : (kept (vs.take j) b).length < j
  jl : j ≤ vs.length
  pre : R.take (kept (vs.take j) b).length = kept (vs.take j) b
  rest : ∀ i,j ≤ i → R[i]? = vs[i]?
theorem DfI.keep {vs b : List Int} {j : Nat} {R : List Int} (h : DfI vs b j R) {v : Int} (hv : vs[j]? = some v) (hb : v ∉ b) : DfI vs b (j + 1) (R.set (kept (vs.take j) b).length v):=by
  have e:=zFd (b:=b) hv
  rw [if_neg hb] at e
  have hk:=h.k
  have hj:=(List.getElem?_eq_some_iff.1 hv).1
  refine ⟨by rw [List.length_set];exact h.len,by rw [e];simp;omega,hj,?_,fun i hi=>?_⟩
  · rw [e,List.length_append,List.length_singleton,List.take_add_one,List.getElem?_set_self (by rw [h.len];omega),List.take_set_of_le (Nat.le_refl _),h.pre];rfl
  · rw [List.getElem?_set_ne (by omega)];exact h.rest i (by omega)
theorem DfI.drop {vs b : List Int} {j : Nat} {R : List Int} (h : DfI vs b j R) {v : Int} (hv : vs[j]? = some v) (hb : v ∈ b) : DfI vs b (j + 1) R:=by
  have e:=zFd (b:=b) hv
  rw [if_pos hb,List.append_nil] at e
  have hk:=h.k
  have hj:=(List.getElem?_eq_some_iff.1 hv).1
  exact ⟨h.len,by rw [e];omega,hj,by rw [e];exact h.pre,fun i hi=>h.rest i (by omega)⟩
theorem DfI.start {vs b : List Int} {i : Nat} {v : Int} (hi : vs[i]? = some v) (hv : v ∈ b) (hn : ∀ (j : Nat) u,j < i → vs[j]? = some u → decide (u ∈ b) = false) : DfI vs b (i + 1) vs ∧ (kept (vs.take (i + 1)) b).length = i:=by
  have e:=zFd (b:=b) hi
  rw [if_pos hv,List.append_nil] at e
  have hl:=(List.getElem?_eq_some_iff.1 hi).1
  have e2 : kept (vs.take i) b = vs.take i:=zLU fun j u hu=>by
    rw [List.getElem?_take] at hu
    split at hu
    · exact hn j u ‹_› hu
    · cases hu
  have e3 : (kept (vs.take (i + 1)) b).length = i:=by rw [e,e2,List.length_take];omega
  exact ⟨⟨rfl,by omega,hl,by rw [e3,e,e2],fun _ _=>rfl⟩,e3⟩
theorem zOv {α : Type} {p : α → Bool} {L : List α} : (idxP p L = -1 ∧ ∀ (j : Nat) u,L[j]? = some u → p u = false) ∨ ∃ (i : Nat) (v : α),idxP p L = i ∧ L[i]? = some v ∧ p v = true ∧ ∀ (j : Nat) u,j < i → L[j]? = some u → p u = false:=by
  cases h : L.findIdx? p with
  | none =>
    rw [List.findIdx?_eq_none_iff] at h
    exact .inl ⟨zDl fun j u hu=>h u (List.mem_of_getElem? hu),fun j u hu=>h u (List.mem_of_getElem? hu)⟩
  | some i =>
    obtain ⟨h1,h2,h3⟩:=List.findIdx?_eq_some_iff_getElem.1 h
    refine .inr ⟨i,L[i],by rw [idxP,h],List.getElem?_eq_getElem h1,h2,fun j u hj hu=>?_⟩
    obtain ⟨h4,rfl⟩:=List.getElem?_eq_some_iff.1 hu
    simpa using h3 j hj
set_option maxHeartbeats 2000000 in
theorem zU5 (vs b : List Int) (hv : vs.length ≤ 1000000) (hb : b.length ≤ 1000000000) :
    zAx Tryz.prog 116 [.buf 0 vs.length,.clo 117 [1]] (dfO (vs.map ival) b) (.buf 0 (kept vs b).length) (dfO ((kept vs b).map ival ++ List.replicate (vs.length - (kept vs b).length) (ival 0)) b):=by
  have hix:=zWJ vs b (by omega) (by omega)
  rcases zOv (p:=fun v=>decide (v ∈ b)) (L:=vs) with ⟨h1,h2⟩ | ⟨i,v,h1,h2,h3,h4⟩
  · rw [zLU h2,Nat.sub_self,List.replicate_zero,List.append_nil]
    rw [h1] at hix
    refine zAw Tryz.func116 rfl Tryz.ntmps116 Tryz.results116 rfl rfl rfl ?_
    intro wb St0 X fx
    repeat' first | apply en_n|apply zAH|apply zAC|apply zAF|apply w0|(apply zBV;exact rfl;exact rfl;first|assumption|omega)|exact zA8 rfl|(refine zA6 [0,1,2] [] rfl rfl zTn (hix) rfl ?_ rfl (by decide) rfl rfl rfl rfl;(repeat (refine zAI rfl ?_));exact zAM)|apply ay (hd:=rfl)|exact zAE rfl|exact zAD rfl|exact zAY rfl|exact zAt rfl|exact zAj rfl|(apply zAQ;exact rfl)|apply zAN|apply en_r
    exact zAh (zAL (zAA rfl zAW) (zAl rfl rfl rfl (zAB rfl rfl (zAl rfl rfl rfl zAK))) rfl rfl)
  · rw [h1] at hix
    have h3 : v ∈ b:=by simpa using h3
    obtain ⟨hI0,hI1⟩:=DfI.start h2 h3 h4
    have hil:=(List.getElem?_eq_some_iff.1 h2).1
    clear h1 h4
    refine zAw Tryz.func116 rfl Tryz.ntmps116 Tryz.results116 rfl rfl rfl ?_
    intro wb St0 X fx
    repeat' first | apply en_n|apply zAH|apply zAC|apply zAF|apply w0|(apply zBW;exact rfl;exact rfl;first|assumption|omega)|exact zA8 rfl|(refine zA6 [0,1,2] [] rfl rfl zTn (hix) rfl ?_ rfl (by decide) rfl rfl rfl rfl;(repeat (refine zAI rfl ?_));exact zAM)|apply ay (hd:=rfl)|exact zAE rfl|exact zAD rfl|(apply zBG;exact rfl;exact rfl)|exact zAY rfl|exact zAt rfl|(apply zAU;exact rfl)|apply zAJ|apply zAT
    all_goals first | omega | skip
    refine zAs (α:=Nat × List Int) (fun p=>DfI vs b p.1 p.2) (fun p=>[(0,.buf 0 vs.length),(1,.clo 117 [1]),(5,.d (i64 ((kept (vs.take p.1) b).length : Int))),(6,.d (i64 (p.1 : Int)))]) (fun p=>anch fx 0 (dfO (vs.map ival) b) (dfO (p.2.map ival) b)) (fun p=>vs.length - p.1) (i + 1,vs) hI0
      (zAL (zAA rfl (zAA rfl (Le_d rfl (by rw [hI1]) (Le_d rfl (by simp) zAW)))) (zAl rfl rfl rfl (zAB rfl rfl (zAl rfl rfl rfl zAK))) rfl rfl) ?_
    rintro ⟨j,R⟩ hI
    dsimp only at hI ⊢
    have hk:=hI.k
    have hj:=hI.jl
    have hRl:=hI.len
    rcases Nat.lt_or_ge j vs.length with hlt | hge
    · have hx : vs[j]? = some vs[j]:=List.getElem?_eq_getElem hlt
      generalize vs[j] = u at hx
      have hxm : (R.map ival)[((j : Nat) : Int).toNat]? = some (ival u):=by rw [Int.toNat_natCast,List.getElem?_map,hI.rest j (Nat.le_refl _),hx];rfl
      have hml : vs.length ≤ (R.map ival).length:=by rw [List.length_map];omega
      have ha:=zRR b (by omega) u
      by_cases hub : u ∈ b
      · rw [decide_eq_true hub] at ha
        skip
        repeat' first | apply en_n|apply zAH|apply zAC|apply zAF|apply w0|(apply zBK;exact rfl;exact rfl;first|assumption|omega)|exact zA8 rfl|(refine zDq rfl rfl rfl zBD ?_ ?_)|(refine zEY rfl zAz rfl hxm rfl)|(refine zA6 [1,2] [0] rfl rfl zMr (ha) rfl ?_ rfl (by decide) rfl rfl rfl rfl;(repeat (refine zAI rfl ?_));exact zAM)|apply ay (hd:=rfl)|exact zAE rfl|exact zAD rfl|(apply zBG;exact rfl;exact rfl)|exact zCS rfl|exact zAt rfl|(apply zC3;exact rfl;(with_reducible exact zCU))|(apply zAQ;exact rfl)|(apply zAU;exact rfl)|apply zAJ|apply zAT|apply eb_n
        all_goals first | omega | assumption | skip
        have e:=zFd (b:=b) hx
        rw [if_pos hub,List.append_nil] at e
        exact ⟨(j + 1,R),hI.drop hx hub,by show vs.length - (j + 1) < _;omega,zAL (zAA rfl (zAA rfl (Le_d rfl (by rw [e]) (zAA rfl zAW)))) (zAl rfl rfl rfl (zAB rfl rfl (zAl rfl rfl rfl zAK))) rfl rfl⟩
      · rw [decide_eq_false hub] at ha
        have hkl : (kept (vs.take j) b).length < vs.length:=by omega
        skip
        repeat' first | apply en_n|apply zAH|apply zAC|apply zAF|apply w0|(apply zBK;exact rfl;exact rfl;first|assumption|omega)|exact zA8 rfl|(refine zDq rfl rfl rfl zBD ?_ ?_)|(refine zEY rfl zAz rfl hxm rfl)|(refine zA6 [1,2] [0] rfl rfl zMr (ha) rfl ?_ rfl (by decide) rfl rfl rfl rfl;(repeat (refine zAI rfl ?_));exact zAM)|(refine zM7 rfl rfl rfl zAz rfl rfl ?_ rfl ?_)|apply ay (hd:=rfl)|exact zAE rfl|exact zAD rfl|(apply zBG;exact rfl;exact rfl)|exact zCS rfl|exact zAt rfl|(apply zC3;exact rfl;(with_reducible exact zCU))|(refine w0' ?_)|(apply zAQ;exact rfl)|apply zAJ|apply zAT|apply eb_n
        all_goals first | omega | assumption | skip
        have e:=zFd (b:=b) hx
        rw [if_neg hub] at e
        exact ⟨(j + 1,R.set (kept (vs.take j) b).length u),hI.keep hx hub,by show vs.length - (j + 1) < _;omega,zAL (zAA rfl (zAA rfl (Le_d rfl (by rw [e];simp) (zAA rfl zAW)))) (zAl rfl rfl (by rw [List.map_set,Int.toNat_natCast]) (zAB rfl rfl (zAl rfl rfl rfl zAK))) rfl rfl⟩
    · have e1 : vs.take j = vs:=List.take_of_length_le hge
      have hm1 : vs.length = (R.map ival).length:=by rw [List.length_map];omega
      have hk1 : (kept (vs.take j) b).length < vs.length:=by omega
      have hkb:=zNt vs b
      have hes : (zA9 Tryz.prog 52).isSome = true:=by rw [zBD];rfl
      have hpre : (R.map ival).take (kept (vs.take j) b).length = (kept (vs.take j) b).map ival:=by rw [← List.map_take,hI.pre]
      skip
      repeat' first | (apply zM8 (z:=.int .i64 0) (xs:=R.map ival);exact rfl;exact rfl;exact rfl;exact hm1;exact hk1;(with_reducible exact zBD);(with_reducible exact zDh);(with_reducible exact zT5);exact rfl;exact rfl)|apply en_n|apply zAH|apply zAC|apply zAF|apply w0|(apply zCJ;exact rfl;exact rfl;first|assumption|omega)|(refine zRZ rfl hes rfl ?_ ⟨_,_,_,_,rfl,?_⟩)|apply ay (hd:=rfl)|exact zAE rfl|exact zAt rfl|exact zAj rfl|(apply zC3;exact rfl;(with_reducible exact zCU))|(apply zAU;exact rfl)|apply zAN|apply zAu|apply en_e|apply eb_e
      all_goals first | omega | assumption | skip
      · simp only [List.length_append,List.length_take,List.length_replicate,List.length_map];omega
      · rw [e1] at hpre
        exact zAh (zAL (zBs rfl (by rw [e1,Int.toNat_natCast]) zAW) (zAl rfl rfl (by rw [e1,hpre];rfl) (zAB rfl rfl (zAl rfl rfl rfl zAK))) rfl rfl)
end Go.Proofs.YtblomnkamngnbaaGreatDoor
