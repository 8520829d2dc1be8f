/- Texts of this claim, merged: RefA. -/
import Derived.Test.YtblomnkamngnbaaGreatDoorMAF
import Derived.Test.YtblomnkamngnbaaGreatDoorMAG
import Derived.Test.YtblomnkamngnbaaGreatDoorMAS
namespace Go.Proofs.YtblomnkamngnbaaGreatDoor
open Go.Sx Go.RowKit
theorem zGa : zAT Tryz.prog 20 = true:=by kernel_rfl
theorem zHj : zAT Tryz.prog 19 = true:=by kernel_rfl
theorem zC9 : zAT Tryz.prog 82 = true:=by kernel_rfl
theorem zD9 : zAT Tryz.prog 83 = true:=by kernel_rfl
theorem zC1 : zAT Tryz.prog 46 = true:=by kernel_rfl
theorem zLE : zAT Tryz.prog 45 = true:=by kernel_rfl
theorem zEf : zAT Tryz.prog 25 = true:=by kernel_rfl
theorem zLF : zAT Tryz.prog 47 = true:=by kernel_rfl
theorem zFj : zAT Tryz.prog 26 = true:=by kernel_rfl
theorem zJJ : zAT Tryz.prog 8 = true:=by kernel_rfl
attribute [local irreducible] zAT Program.underlying Ylds zBA alex zBe zBP awp zAj zBZ zBk zA2 zBH zBR zA8 zBV zBb zBf zBu zBO
theorem zN3 (s : List UInt8) (hs : s.length ≤ 9223372036854775807) : zAj Tryz.prog 20 [str s] (bl (zDe s)):=by
  refine zAd Tryz.func20 rfl Tryz.ntmps20 Tryz.results20 rfl ?_
  intro wb St0
  repeat' first | apply en_n|apply zAH|apply zAB|apply zAF|apply w0|(apply zBE;exact zJt;exact zDl;exact PD_d rfl rfl (PD_d rfl rfl zB0);exact rfl)|(refine zAV zB8 (zGy ⟨1,s,0,0⟩ hs) (zAX rfl zAG))|(refine zAV zB8 (zGy ⟨5,s,0,0⟩ hs) (zAX rfl zAG))|apply ay (hd:=rfl)|exact zAE rfl|exact zAC rfl|exact zAi rfl rfl|exact zAh rfl rfl|(apply w1;exact rfl;exact rfl)|(apply k0 (hd:=rfl);exact rfl;exact rfl)|(apply g1;exact rfl;exact rfl;(intro hb);rotate_left;(intro hb);rotate_right)|apply zAM|apply zAJ|(apply res1;exact rfl)
  · rw [zDe,hb];rfl
  · rw [zDe,hb];rfl
theorem zKt (s : List UInt8) (hs : s.length ≤ 1000000) : zAj Tryz.prog 20 [str s] (bl (zDe s)):=zN3 s (by omega)
theorem zJr (s : List UInt8) (hs : s.length ≤ 1000000) : zAj Tryz.prog 19 [str s] (bl (conF s)):=by
  refine zAd Tryz.func19 rfl Tryz.ntmps19 Tryz.results19 rfl ?_
  intro wb St0
  repeat' first | apply en_n|apply zAH|apply zAB|apply zAF|apply w0|(apply zBE;exact zJt;exact zDl;exact PD_d rfl rfl (PD_d rfl rfl zB0);exact rfl)|(refine zAV zB8 (zEZ ⟨2,s,0,0⟩ hs) (zAX rfl zAG))|apply ay (hd:=rfl)|exact zAE rfl|exact zAC rfl|apply zAM|apply zAJ|(apply res1;exact rfl)
  rfl
def zEr (k : Int) : Int:=if k = 1 ∨ k = 6 ∨ k = 9 ∨ k = 10 ∨ k = 11 ∨ k = 21 ∨ k = 23 then 0 else if namK k = true then 1 else if k = 4 ∨ k = 24 then 2 else if k = 2 then 3 else -1
theorem zIJ (k : Int) : (k = 1 ∨ k = 2 ∨ k = 3 ∨ k = 4 ∨ k = 5 ∨ k = 6 ∨ k = 7 ∨ k = 8 ∨ k = 9 ∨ k = 10 ∨ k = 11 ∨ k = 12 ∨ k = 21 ∨ k = 22 ∨ k = 23 ∨ k = 24) ∨ (okK k = false ∧ (k < 1 ∨ (12 < k ∧ k < 21) ∨ 24 < k)):=by
  by_cases h : (1 ≤ k ∧ k ≤ 12) ∨ (21 ≤ k ∧ k ≤ 24)
  · left;omega
  · right;exact ⟨decide_eq_false h,by omega⟩
set_option maxHeartbeats 8000000 in
theorem zH8 (k : Int) : zAj Tryz.prog 82 [i64 k] (i64 (zEr k)):=by
  rcases zIJ k with (rfl | rfl | rfl | rfl | rfl | rfl | rfl | rfl | rfl | rfl | rfl | rfl | rfl | rfl | rfl | rfl) | ⟨_,h⟩
  case inr =>
    have e : zEr k = -1:=by
      unfold zEr namK
      rw [if_neg (by omega),if_neg (by rw [decide_eq_true_eq];omega),if_neg (by omega),if_neg (by omega)]
    rw [e]
    refine zAd Tryz.func82 rfl Tryz.ntmps82 Tryz.results82 rfl ?_
    intro wb St0
    repeat' first | apply en_n|apply zAH|apply zAB|apply zAF|apply w0|(apply zA9;exact rfl;exact rfl;first|assumption|omega)|apply ay (hd:=rfl)|exact zAE rfl|exact zAC rfl|(apply zAQ;exact rfl)|apply zAI|apply zAP|apply zAM|apply eb_n|apply zAJ|(apply res1;exact rfl)
    rfl
  all_goals
    refine zAd Tryz.func82 rfl Tryz.ntmps82 Tryz.results82 rfl ?_
    intro wb St0
    repeat' first | apply en_n|apply zAH|apply zAB|apply zAF|apply w0|(apply zBD;exact rfl;exact rfl;first|assumption|omega)|(apply zA9;exact rfl;exact rfl;first|assumption|omega)|apply ay (hd:=rfl)|exact zAE rfl|exact zAC rfl|(apply zAK;exact rfl)|(apply zAQ;exact rfl)|apply zAI|apply zAP|apply zAM|apply en_r|apply eb_r|apply zAJ|(apply res1;exact rfl)
  all_goals rfl
set_option maxHeartbeats 8000000 in
theorem zKr (k n : Int) : zAj Tryz.prog 83 [i64 k,i64 n] (bl (cntK k n)):=by
  rcases zIJ k with (rfl | rfl | rfl | rfl | rfl | rfl | rfl | rfl | rfl | rfl | rfl | rfl | rfl | rfl | rfl | rfl) | ⟨_,h⟩
  case inr =>
    have e : cntK k n = decide (n = 0):=by
      unfold cntK
      rw [if_neg (by omega),if_neg (by omega),if_neg (by omega),if_neg (by omega),if_neg (by omega)]
    rw [e]
    refine zAd Tryz.func83 rfl Tryz.ntmps83 Tryz.results83 rfl ?_
    intro wb St0
    repeat' first | apply en_n|apply zAH|apply zAB|apply zAF|apply w0|(apply zA9;exact rfl;exact rfl;(first|assumption|omega))|apply ay (hd:=rfl)|exact zAE rfl|exact zAC rfl|exact zC6 rfl rfl|(apply zAQ;exact rfl)|apply zAI|apply zAP|apply zAM|apply eb_n|apply zAJ|(apply res1;exact rfl)
    rfl
  all_goals
    refine zAd Tryz.func83 rfl Tryz.ntmps83 Tryz.results83 rfl ?_
    intro wb St0
    repeat' first | apply en_n|apply zAH|apply zAB|apply zAF|apply w0|(apply k1u (hd:=rfl);exact rfl;exact rfl)|exact zBD rfl rfl rfl|(apply zA9;exact rfl;exact rfl;exact (by decide))|(apply zMZ;exact rfl;exact rfl;exact (by decide))|apply ay (hd:=rfl)|exact zAE rfl|exact zAC rfl|exact zEU rfl rfl|exact zC6 rfl rfl|exact zAi rfl rfl|exact zAh rfl rfl|(apply w1;exact rfl;exact rfl)|(apply gD;exact rfl;exact rfl;(intro hb);rotate_left;(intro hb);rotate_right)|(apply zAK;exact rfl)|(apply zAQ;exact rfl)|apply zAI|apply zAP|apply zAM|apply en_r|apply eb_n|apply eb_r|apply zAJ|(apply res1;exact rfl)
  all_goals first
    | rfl
    | (refine zDB ?_
       rw [cntK,if_neg (by decide),if_neg (by decide),if_neg (by decide),if_pos rfl]
       first
         | (rw [Int.tmod_eq_emod_of_nonneg (by omega),decide_eq_decide];omega)
         | (symm;rw [decide_eq_false_iff_not];omega))
theorem zGz (k : Int) : zAj Tryz.prog 46 [i64 k] (bl (patK k)):=by
  refine zAd Tryz.func46 rfl Tryz.ntmps46 Tryz.results46 rfl ?_
  intro wb St0
  repeat' first | apply en_n|apply zAH|apply zAB|apply zAF|apply w0|(apply k1u (hd:=rfl);exact rfl;exact rfl)|apply ay (hd:=rfl)|exact zAE rfl|exact zAC rfl|exact zHH rfl rfl|exact zEU rfl rfl|exact zAi rfl rfl|exact zAh rfl rfl|(apply w1;exact rfl;exact rfl)|(apply gD;exact rfl;exact rfl;(intro hb);rotate_left;(intro hb);rotate_right)|apply zAM|apply zAJ|(apply res1;exact rfl)
  · refine zDB ?_
    rw [patK,decide_eq_decide];omega
  · refine zDB ?_
    symm;rw [patK,decide_eq_false_iff_not];omega
end Go.Proofs.YtblomnkamngnbaaGreatDoor
