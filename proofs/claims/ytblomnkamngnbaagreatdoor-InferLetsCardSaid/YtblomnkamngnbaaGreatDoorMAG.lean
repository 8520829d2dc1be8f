/- Texts of this claim, merged: LexE. -/
import Derived.Test.YtblomnkamngnbaaGreatDoorMAF
namespace Go.Proofs.YtblomnkamngnbaaGreatDoor
open Go.Sx
attribute [local irreducible] zAO Program.underlying Ylds zA3 alex zBY zBN awp zAm zBT zBe zAx zBA zBP zA2 zBR zBX zBa zBq
def idxT (A : List (List UInt8)) (b : List UInt8) : Int:=if b ∈ A then ((A.takeWhile fun x=>decide (x ≠ b)).length : Int) else -1
theorem zSg {A : List (List UInt8)} {b : List UInt8} {i : Nat} (h0 : ∀ j,j < i → A[j]? ≠ some b) (h1 : A[i]? = some b) : idxT A b = i:=by
  have hm : b ∈ A:=List.mem_of_getElem? h1
  rw [idxT,if_pos hm]
  congr 1
  induction A generalizing i with
  | nil=>simp at h1
  | cons x r ih =>
    cases i with
    | zero=>simp at h1;simp [List.takeWhile,h1]
    | succ i =>
      have hx : x ≠ b:=by have:=h0 0 (by omega);simpa using this
      rw [List.takeWhile_cons,if_pos (by simpa using hx),List.length_cons]
      rw [ih (i:=i) (fun j hj=>by have:=h0 (j + 1) (by omega);simpa using this) (by simpa using h1) (List.mem_of_getElem? (by simpa using h1))]
theorem zLZ {A : List (List UInt8)} {b : List UInt8} (h : b ∉ A) : idxT A b = -1:=if_neg h
theorem zRq (A : List (List UInt8)) (b : List UInt8) (hL : A.length ≤ 2000000) : zAm Tryz.prog 140 [strs A,str b] (i64 (idxT A b)):=by
  refine zAd Tryz.func140 rfl Tryz.ntmps140 Tryz.results140 rfl ?_
  intro wb St0
  repeat' first | apply en_n|apply zAH|apply zAC|apply zAF|apply w0|apply ay (hd:=rfl)|exact zAE rfl|exact zAD rfl|(apply zAr;exact rfl;(with_reducible exact zDu))|apply zAJ
  refine zAs (α:=Nat) (fun i=>i ≤ A.length ∧ ∀ j,j < i → A[j]? ≠ some b) (fun i=>[(0,.d (strs A)),(1,.d (str b)),(7,.d (i64 (A.length : Int))),(8,.d (i64 (i : Int)))]) (fun _=>[]) (fun i=>A.length - i) 0 ⟨Nat.zero_le _,by omega⟩
      (zAL (zAA rfl (zAA rfl (Le_d rfl (by first | rfl | simp) (zAA rfl zAW)))) zAK rfl rfl) ?_
  rintro i ⟨hi1,hi2⟩
  repeat' first | apply en_n|apply zAH|apply zAC|apply zAF|apply w0|exact zHa rfl rfl|(apply aI (hd:=rfl);(first|exact zAn rfl|exact Co_bb rfl rfl rfl|exact Co_nn rfl);exact rfl;(with_reducible exact zBx);exact fun _=>rfl;rotate_left;intro v hv;rotate_right)|apply ay (hd:=rfl)|exact zAE rfl|exact zAD rfl|(apply zAi;exact rfl;(with_reducible exact zK4))|exact zDG rfl rfl|(apply zBG;exact rfl;exact rfl)|(apply zA1;exact rfl;(intro hb);rotate_left;(intro hb);rotate_right)|apply zAJ|apply zAT|apply zAN|apply zAu|apply en_r|apply en_e|apply eb_n|apply eb_r|apply eb_e|apply zAP|(apply res1;exact rfl)
  · omega
  · subst hb;rw [zSg hi2 hv]
  · omega
  · refine ⟨i + 1,⟨by omega,fun j hj=>?_⟩,by omega,zAL (zAA rfl (zAA rfl (zAA rfl (zAA rfl zAW)))) zAK rfl rfl⟩
    rcases Nat.lt_or_ge j i with h1 | h1
    · exact hi2 j h1
    · rw [show j = i by omega];intro h2;exact hb (Option.some.inj (h2.symm.trans hv))
  · rw [zLZ];intro h1
    obtain ⟨j,hj,h2⟩:=List.getElem_of_mem h1
    exact hi2 j (by omega) (by rw [List.getElem?_eq_getElem hj,h2])
theorem zHi (A : List (List UInt8)) (b : List UInt8) (hL : A.length ≤ 2000000) : zAm Tryz.prog 123 [strs A,str b] (bl (A.contains b)):=by
  refine zAd Tryz.func123 rfl Tryz.ntmps123 Tryz.results123 rfl ?_
  intro wb St0
  repeat' first | apply en_n|apply zAH|apply zAC|apply zAF|apply w0|(apply zAX (hb:=zSs) (hc:=zRq A b hL))|apply ay (hd:=rfl)|exact zAE rfl|exact zAD rfl|exact zFp rfl rfl|apply zAN|apply zAP|(apply res1;exact rfl)|exact zAG|refine zAZ rfl ?_
  refine zD6 ?_
  by_cases h : b ∈ A
  · rw [List.contains_iff_mem.2 h,idxT,if_pos h];exact decide_eq_true (by omega)
  · rw [show A.contains b = false by simpa using h,zLZ h];rfl
theorem zR1 : zAm Tryz.prog 124 [] (strs kws):=by
  refine zAd Tryz.func124 rfl Tryz.ntmps124 Tryz.results124 rfl ?_
  intro wb St0
  repeat' first | apply en_n|apply zAH|apply zAC|apply zAF|apply w0|(apply zAX (hb:=zQj) (hc:=zRt))|apply ay (hd:=rfl)|exact zAD rfl|exact zAY rfl|apply zAN|apply zAP|(apply res1;exact rfl)|exact zAG|refine zAZ rfl ?_
  all_goals rfl
theorem zT3 (s : List UInt8) : zAm Tryz.prog 87 [str s] (bl (zMm s)):=by
  refine zAd Tryz.func87 rfl Tryz.ntmps87 Tryz.results87 rfl ?_
  intro wb St0
  repeat' first | apply en_n|apply zAH|apply zAC|apply zAF|apply w0|(apply zAX (hb:=zSh) (hc:=zR1))|(apply zAX (hb:=zGR) (hc:=zHi kws s (by decide)))|apply ay (hd:=rfl)|exact zAE rfl|exact zAD rfl|apply zAN|apply zAP|(apply res1;exact rfl)|exact zAG|refine zAZ rfl ?_
  all_goals rfl
theorem zOS {η : List Ob} {σ : Sl} : ∀ L : List (List UInt8),CoL η σ (L.map fun l=>Operand.const (.string ⟨l.toArray⟩)) (L.map str)
  | []=>zAG
  | _ :: r=>zAZ rfl (zOS r)
theorem zPz : zAm Tryz.prog 120 [] (strs kws):=by
  refine zAd Tryz.func120 rfl Tryz.ntmps120 Tryz.results120 rfl ?_
  intro wb St0
  repeat' first | apply en_n|apply zAH|apply zAC|apply zAF|apply w0|(refine zUy (sz:=1) (ds:=kws.map str) (xs:=kws.map fun l=>Operand.const (.string ⟨l.toArray⟩)) zCG zBx zEg rfl (by decide) rfl rfl (zOS kws) (by decide) rfl)|apply ay (hd:=rfl)|exact zAD rfl|exact zAY rfl|apply zAN|apply zAP|(apply res1;exact rfl)
  all_goals rfl
theorem zUK (s : List UInt8) : zAm Tryz.prog 80 [str s] (bl (zMm s)):=by
  refine zAd Tryz.func80 rfl Tryz.ntmps80 Tryz.results80 rfl ?_
  intro wb St0
  repeat' first | apply en_n|apply zAH|apply zAC|apply zAF|apply w0|(apply zAX (hb:=zQd) (hc:=zPz))|apply ay (hd:=rfl)|exact zAD rfl|apply zAJ|exact zAG
  refine zAs (α:=Nat) (fun i=>i ≤ kws.length ∧ ∀ j,j < i → kws[j]? ≠ some s) (fun i=>[(0,.d (str s)),(3,.d (strs kws)),(4,.d (i64 (i : Int)))]) (fun _=>[]) (fun i=>kws.length - i) 0 ⟨Nat.zero_le _,by omega⟩
      (zAL (zAA rfl (zAA rfl (zAA rfl zAW))) zAK rfl rfl) ?_
  rintro i ⟨hi1,hi2⟩
  have hk : kws.length = 25:=rfl
  repeat' first | apply en_n|apply zAH|apply zAC|apply zAF|apply w0|exact zHa rfl rfl|(apply aI (hd:=rfl);(first|exact zAn rfl|exact Co_bb rfl rfl rfl|exact Co_nn rfl);exact rfl;(with_reducible exact zBx);exact fun _=>rfl;rotate_left;intro v hv;rotate_right)|apply ay (hd:=rfl)|exact zAE rfl|exact zAD rfl|(apply zAi;exact rfl;(with_reducible exact zK4))|(apply zAr;exact rfl;(with_reducible exact zDu))|exact zDG rfl rfl|(apply zBG;exact rfl;exact rfl)|(apply zA1;exact rfl;(intro hb);rotate_left;(intro hb);rotate_right)|apply zAJ|apply zAT|apply zAN|apply zAu|apply en_r|apply en_e|apply eb_n|apply eb_r|apply eb_e|apply zAP|(apply res1;exact rfl)
  · omega
  · subst hb;exact zD6 (List.contains_iff_mem.2 (List.mem_of_getElem? hv)).symm
  · omega
  · refine ⟨i + 1,⟨by omega,fun j hj=>?_⟩,by omega,zAL (zAA rfl (zAA rfl (zAA rfl zAW))) zAK rfl rfl⟩
    rcases Nat.lt_or_ge j i with h1 | h1
    · exact hi2 j h1
    · rw [show j = i by omega];intro h2;exact hb (Option.some.inj (hv.symm.trans h2))
  · refine zD6 ?_
    symm;rw [zMm, ← Bool.not_eq_true];intro h1
    obtain ⟨j,hj,h2⟩:=List.getElem_of_mem (List.contains_iff_mem.1 h1)
    exact hi2 j (by omega) (by rw [List.getElem?_eq_getElem hj,h2])
end Go.Proofs.YtblomnkamngnbaaGreatDoor
