/- Texts of this claim, merged: LexE. -/
import Derived.Test.YtblomnkamngnbaaGreatDoorMAD
namespace Go.Proofs.YtblomnkamngnbaaGreatDoor
open Go.Sx
attribute [local irreducible] zAT Program.underlying Ylds zBA alex zBe zBP awp zAj zBZ zBk zA2 zBH zBR zA8 zBV zBb zBf zBu
def idxT (A : List (List UInt8)) (b : List UInt8) : Int:=if b ∈ A then ((A.takeWhile fun x=>decide (x ≠ b)).length : Int) else -1
theorem zRf {A : List (List UInt8)} {b : List UInt8} {i : Nat} (h0 : ∀ j,j < i → A[j]? ≠ some b) (h1 : A[i]? = some b) : idxT A b = i:=by
  have hm : b ∈ A:=List.mem_of_getElem? h1
  rw [idxT,if_pos hm]
  congr 1
  induction A generalizing i with
  | nil=>simp at h1
  | cons x r ih =>
    cases i with
    | zero=>simp at h1;simp [List.takeWhile,h1]
    | succ i =>
      have hx : x ≠ b:=by have:=h0 0 (by omega);simpa using this
      rw [List.takeWhile_cons,if_pos (by simpa using hx),List.length_cons]
      rw [ih (i:=i) (fun j hj=>by have:=h0 (j + 1) (by omega);simpa using this) (by simpa using h1) (List.mem_of_getElem? (by simpa using h1))]
theorem zK8 {A : List (List UInt8)} {b : List UInt8} (h : b ∉ A) : idxT A b = -1:=if_neg h
theorem zQv (A : List (List UInt8)) (b : List UInt8) (hL : A.length ≤ 2000000) : zAj Tryz.prog 140 [strs A,str b] (i64 (idxT A b)):=by
  refine zAd Tryz.func140 rfl Tryz.ntmps140 Tryz.results140 rfl ?_
  intro wb St0
  repeat' first | apply en_n|apply zAH|apply zAB|apply zAF|apply w0|apply ay (hd:=rfl)|exact zAE rfl|exact zAC rfl|(apply zAl;exact rfl;(with_reducible exact zC5))|apply zAI
  refine zAr (α:=Nat) (fun i=>i ≤ A.length ∧ ∀ j,j < i → A[j]? ≠ some b) (fun i=>[(0,.d (strs A)),(1,.d (str b)),(7,.d (i64 (A.length : Int))),(8,.d (i64 (i : Int)))]) (fun _=>[]) (fun i=>A.length - i) 0 ⟨Nat.zero_le _,by omega⟩
      (zAO (zAA rfl (zAA rfl (Le_d rfl (by first | rfl | simp) (zAA rfl zAa)))) zAN rfl rfl) ?_
  rintro i ⟨hi1,hi2⟩
  repeat' first | apply en_n|apply zAH|apply zAB|apply zAF|apply w0|exact zGo rfl rfl|(apply aI (hd:=rfl);(first|exact zAk rfl|exact Co_bb rfl rfl rfl|exact Co_nn rfl);exact rfl;(with_reducible exact zBW);exact fun _=>rfl;rotate_left;intro v hv;rotate_right)|apply ay (hd:=rfl)|exact zAE rfl|exact zAC rfl|(apply zAg;exact rfl;(with_reducible exact zKa))|exact zCT rfl rfl|(apply zBC;exact rfl;exact rfl)|(apply zAz;exact rfl;(intro hb);rotate_left;(intro hb);rotate_right)|apply zAI|apply zAP|apply zAM|apply zAt|apply en_r|apply en_e|apply eb_n|apply eb_r|apply eb_e|apply zAJ|(apply res1;exact rfl)
  · omega
  · subst hb;rw [zRf hi2 hv]
  · omega
  · refine ⟨i + 1,⟨by omega,fun j hj=>?_⟩,by omega,zAO (zAA rfl (zAA rfl (zAA rfl (zAA rfl zAa)))) zAN rfl rfl⟩
    rcases Nat.lt_or_ge j i with h1 | h1
    · exact hi2 j h1
    · rw [show j = i by omega];intro h2;exact hb (Option.some.inj (h2.symm.trans hv))
  · rw [zK8];intro h1
    obtain ⟨j,hj,h2⟩:=List.getElem_of_mem h1
    exact hi2 j (by omega) (by rw [List.getElem?_eq_getElem hj,h2])
theorem zHT (A : List (List UInt8)) (b : List UInt8) (hL : A.length ≤ 2000000) : zAj Tryz.prog 123 [strs A,str b] (bl (A.contains b)):=by
  refine zAd Tryz.func123 rfl Tryz.ntmps123 Tryz.results123 rfl ?_
  intro wb St0
  repeat' first | apply en_n|apply zAH|apply zAB|apply zAF|apply w0|(apply zAV (hb:=zRq) (hc:=zQv A b hL))|apply ay (hd:=rfl)|exact zAE rfl|exact zAC rfl|exact zEU rfl rfl|apply zAM|apply zAJ|(apply res1;exact rfl)|exact zAG|refine zAX rfl ?_
  refine zDB ?_
  by_cases h : b ∈ A
  · rw [List.contains_iff_mem.2 h,idxT,if_pos h];exact decide_eq_true (by omega)
  · rw [show A.contains b = false by simpa using h,zK8 h];rfl
theorem zQ5 : zAj Tryz.prog 124 [] (strs kws):=by
  refine zAd Tryz.func124 rfl Tryz.ntmps124 Tryz.results124 rfl ?_
  intro wb St0
  repeat' first | apply en_n|apply zAH|apply zAB|apply zAF|apply w0|(apply zAV (hb:=zPt) (hc:=zQy))|apply ay (hd:=rfl)|exact zAC rfl|exact zAb rfl|apply zAM|apply zAJ|(apply res1;exact rfl)|exact zAG|refine zAX rfl ?_
  all_goals rfl
theorem zSs (s : List UInt8) : zAj Tryz.prog 87 [str s] (bl (zOG s)):=by
  refine zAd Tryz.func87 rfl Tryz.ntmps87 Tryz.results87 rfl ?_
  intro wb St0
  repeat' first | apply en_n|apply zAH|apply zAB|apply zAF|apply w0|(apply zAV (hb:=zRg) (hc:=zQ5))|(apply zAV (hb:=zF5) (hc:=zHT kws s (by decide)))|apply ay (hd:=rfl)|exact zAE rfl|exact zAC rfl|apply zAM|apply zAJ|(apply res1;exact rfl)|exact zAG|refine zAX rfl ?_
  all_goals rfl
theorem zNn {η : List Ob} {σ : Sl} : ∀ L : List (List UInt8),CoL η σ (L.map fun l=>Operand.const (.string ⟨l.toArray⟩)) (L.map str)
  | []=>zAG
  | _ :: r=>zAX rfl (zNn r)
theorem zPD : zAj Tryz.prog 120 [] (strs kws):=by
  refine zAd Tryz.func120 rfl Tryz.ntmps120 Tryz.results120 rfl ?_
  intro wb St0
  repeat' first | apply en_n|apply zAH|apply zAB|apply zAF|apply w0|(refine zTs (sz:=1) (ds:=kws.map str) (xs:=kws.map fun l=>Operand.const (.string ⟨l.toArray⟩)) zB1 zBW zDk rfl (by decide) rfl rfl (zNn kws) (by decide) rfl)|apply ay (hd:=rfl)|exact zAC rfl|exact zAb rfl|apply zAM|apply zAJ|(apply res1;exact rfl)
  all_goals rfl
theorem zTB (s : List UInt8) : zAj Tryz.prog 80 [str s] (bl (zOG s)):=by
  refine zAd Tryz.func80 rfl Tryz.ntmps80 Tryz.results80 rfl ?_
  intro wb St0
  repeat' first | apply en_n|apply zAH|apply zAB|apply zAF|apply w0|(apply zAV (hb:=zPn) (hc:=zPD))|apply ay (hd:=rfl)|exact zAC rfl|apply zAI|exact zAG
  refine zAr (α:=Nat) (fun i=>i ≤ kws.length ∧ ∀ j,j < i → kws[j]? ≠ some s) (fun i=>[(0,.d (str s)),(3,.d (strs kws)),(4,.d (i64 (i : Int)))]) (fun _=>[]) (fun i=>kws.length - i) 0 ⟨Nat.zero_le _,by omega⟩
      (zAO (zAA rfl (zAA rfl (zAA rfl zAa))) zAN rfl rfl) ?_
  rintro i ⟨hi1,hi2⟩
  have hk : kws.length = 25:=rfl
  repeat' first | apply en_n|apply zAH|apply zAB|apply zAF|apply w0|exact zGo rfl rfl|(apply aI (hd:=rfl);(first|exact zAk rfl|exact Co_bb rfl rfl rfl|exact Co_nn rfl);exact rfl;(with_reducible exact zBW);exact fun _=>rfl;rotate_left;intro v hv;rotate_right)|apply ay (hd:=rfl)|exact zAE rfl|exact zAC rfl|(apply zAg;exact rfl;(with_reducible exact zKa))|(apply zAl;exact rfl;(with_reducible exact zC5))|exact zCT rfl rfl|(apply zBC;exact rfl;exact rfl)|(apply zAz;exact rfl;(intro hb);rotate_left;(intro hb);rotate_right)|apply zAI|apply zAP|apply zAM|apply zAt|apply en_r|apply en_e|apply eb_n|apply eb_r|apply eb_e|apply zAJ|(apply res1;exact rfl)
  · omega
  · subst hb;exact zDB (List.contains_iff_mem.2 (List.mem_of_getElem? hv)).symm
  · omega
  · refine ⟨i + 1,⟨by omega,fun j hj=>?_⟩,by omega,zAO (zAA rfl (zAA rfl (zAA rfl zAa))) zAN rfl rfl⟩
    rcases Nat.lt_or_ge j i with h1 | h1
    · exact hi2 j h1
    · rw [show j = i by omega];intro h2;exact hb (Option.some.inj (hv.symm.trans h2))
  · refine zDB ?_
    symm;rw [zOG, ← Bool.not_eq_true];intro h1
    obtain ⟨j,hj,h2⟩:=List.getElem_of_mem (List.contains_iff_mem.1 h1)
    exact hi2 j (by omega) (by rw [List.getElem?_eq_getElem hj,h2])
end Go.Proofs.YtblomnkamngnbaaGreatDoor
