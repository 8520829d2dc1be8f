/- Texts of this claim, merged: NodF, NodA, NodB, NodC, NodG, NodP, Shelf, WrdF, LexP, LexF, LexA, LexB, LexC, LexD, LexE, WrdA, WrdC, WrdD, WrdE, WrdG, LexG, NodD, TypF, TypU, TypA, TypB, TypG. -/
import Derived.Test.YtamhkcnpocdfcaaGreatDoorProg
import Derived.Shelf.Small.Bits
import Derived.Shelf.Small.Strs
import Derived.Shelf.Small.Wraps
import Derived.Shelf.Strconv.Itoa0
import Derived.Shelf.Strconv.Itoa1
import Derived.Shelf.LaysM
import Derived.Shelf.Strconv.Itoa2
import Derived.Shelf.Strconv.Itoa3
import Derived.Shelf.Strconv.Itoa4
import Derived.Shelf.Strings.Search1
import Derived.Shelf.Strings.Fields
import Derived.Shelf.Strings.SplitShaped
import Derived.Shelf.Unicode.Latin
import Derived.Shelf.Unicode.Is16White
import Derived.Shelf.Unicode.IsSpaceAny
import Derived.Shelf.Unicode.Is16Any
import Derived.Shelf.Unicode.Is32Any
import Derived.Shelf.Unicode.ExclAny
import Derived.Ground.Names2Prog
import Derived.Shelf.Slices.SearchI
import Derived.Lib.ItoaLen
import Derived.Lib.IndexAny
import Derived.Lib.IndexLaws
import Derived.Lib.CutLaws
import Derived.Laws.StructEq
import Derived.ChangeKeysEq
import Derived.Test.YtamhkcnpocdfcaaGreatDoorMC
/- Nodes: facts on the program's types; nodes; the plain functions. -/
namespace Go.Proofs.YtamhkcnpocdfcaaGreatDoor
open Go.Sx

theorem es_nodes : elemSize Tryz.prog 22 = some 4 := by kernel_rfl
theorem es_ints : elemSize Tryz.prog 30 = some 1 := by kernel_rfl
theorem es_nodess : elemSize Tryz.prog 73 = some 1 := by kernel_rfl
theorem et_nodes : (elemTy Tryz.prog 22).isSome = true := by kernel_rfl
theorem et_ints : (elemTy Tryz.prog 30).isSome = true := by kernel_rfl
theorem et_nodess : (elemTy Tryz.prog 73).isSome = true := by kernel_rfl
theorem ety_nodes : elemTy Tryz.prog 22 = some 41 := by kernel_rfl
theorem ety_ints : elemTy Tryz.prog 30 = some 3 := by kernel_rfl
theorem ety_nodess : elemTy Tryz.prog 73 = some 22 := by kernel_rfl
theorem fn_0 : fieldOff Tryz.prog 41 0 = some 0 := by kernel_rfl
theorem fn_1 : fieldOff Tryz.prog 41 1 = some 1 := by kernel_rfl
theorem fn_2 : fieldOff Tryz.prog 41 2 = some 2 := by kernel_rfl
theorem fn_3 : fieldOff Tryz.prog 41 3 = some 3 := by kernel_rfl
theorem tcn_int : tyCells Tryz.prog 3 = some (false, 1) := by kernel_rfl
theorem tcn_kind : tyCells Tryz.prog 39 = some (false, 1) := by kernel_rfl
theorem tcn_i64 : tyCells Tryz.prog 2 = some (false, 1) := by kernel_rfl
theorem tcn_str : tyCells Tryz.prog 9 = some (false, 1) := by kernel_rfl
theorem tcn_bool : tyCells Tryz.prog 4 = some (false, 1) := by kernel_rfl
theorem tc_nodes : tyCells Tryz.prog 22 = some (false, 1) := by kernel_rfl
theorem tc_ints : tyCells Tryz.prog 30 = some (false, 1) := by kernel_rfl
theorem tc_node : tyCells Tryz.prog 41 = some (true, 4) := by kernel_rfl
theorem zl_node : zeroLen Tryz.prog 41 = some 4 := by kernel_rfl
theorem zl_int : zeroLen Tryz.prog 3 = some 1 := by kernel_rfl
theorem zl_nodes : zeroLen Tryz.prog 22 = some 1 := by kernel_rfl
theorem by_nodes : bytesOf Tryz.prog 22 = some 40 := by kernel_rfl
theorem by_ints : bytesOf Tryz.prog 30 = some 8 := by kernel_rfl
theorem by_nodess : bytesOf Tryz.prog 73 = some 24 := by kernel_rfl
theorem zs_node : (zeroOf Tryz.prog 41).isSome = true := by kernel_rfl
theorem zs_int : (zeroOf Tryz.prog 3).isSome = true := by kernel_rfl
theorem zs_nodes : (zeroOf Tryz.prog 22).isSome = true := by kernel_rfl
theorem zo_node : zeroOf Tryz.prog 41 = some [.int .i64 0, .string ByteArray.empty, .int .i64 0, .int .i64 0] := by kernel_rfl
theorem zon_int : zeroOf Tryz.prog 3 = some [.int .i64 0] := by kernel_rfl
theorem zd_node : zeroD Tryz.prog 41 = some (.agg [.val (.int .i64 0), .val (.string ByteArray.empty), .val (.int .i64 0), .val (.int .i64 0)]) := by kernel_rfl
theorem hb_End : hasBody Tryz.prog 61 = true := by kernel_rfl
theorem hb_Whole : hasBody Tryz.prog 30 = true := by kernel_rfl
theorem hb_Kids : hasBody Tryz.prog 69 = true := by kernel_rfl
theorem hbn_Contains : hasBody Tryz.prog 34 = true := by kernel_rfl
theorem hbn_Index : hasBody Tryz.prog 36 = true := by kernel_rfl

theorem hb_rKids : hasBody Tryz.prog 38 = true := by kernel_rfl
theorem hb_rWhole : hasBody Tryz.prog 28 = true := by kernel_rfl
theorem hb_rMake : hasBody Tryz.prog 45 = true := by kernel_rfl
theorem hb_Same : hasBody Tryz.prog 16 = true := by kernel_rfl
theorem hb_Row : hasBody Tryz.prog 14 = true := by kernel_rfl
theorem hbn_own : hasBody Tryz.prog 8 = true := by kernel_rfl
theorem ut_int : Tryz.prog.underlying 3 = some (.int .i64) := by kernel_rfl
theorem bt_node0 : Tryz.prog.built 41 [] = some (List.toArray [.int .i64 0, .string ByteArray.empty, .int .i64 0, .int .i64 0]) := by kernel_rfl
theorem bt_node3 (n : Int) : Tryz.prog.built 41 [(3, .int .i64 n)] = some (List.toArray [.int .i64 0, .string ByteArray.empty, .int .i64 0, .int .i64 n]) := by kernel_rfl
theorem bt_node2 (n : Int) : Tryz.prog.built 41 [(2, .int .i64 n)] = some (List.toArray [.int .i64 0, .string ByteArray.empty, .int .i64 n, .int .i64 0]) := by kernel_rfl
theorem bt_node4 (a c d : Int) (b : ByteArray) : Tryz.prog.built 41 [(0, .int .i64 a), (1, .string b), (2, .int .i64 c), (3, .int .i64 d)] = some (List.toArray [.int .i64 a, .string b, .int .i64 c, .int .i64 d]) := by kernel_rfl

/-- a node -/
structure Nd where
  kind : Int
  text : List UInt8
  num : Int
  kids : Int
deriving DecidableEq

def Nd.av (n : Nd) : D := .agg [.val (.int .i64 n.kind), .val (.string ⟨n.text.toArray⟩), .val (.int .i64 n.num), .val (.int .i64 n.kids)]
def nodes (L : List Nd) : D := .slice (L.map Nd.av)
def ival (n : Int) : D := .val (.int .i64 n)
def nints (L : List Int) : D := .slice (L.map ival)
def nodess (LL : List (List Nd)) : D := .slice (LL.map nodes)
def nilv : D := .val (.slice none 0 0)

/-! ### End -/
def endGo (n : Nat) : List Nd → Int → Int → Int
  | [], _, _ => -1
  | x :: r, o, a => if x.kids < 0 ∨ x.kids > n then -1 else if o + (x.kids - 1) > 0 then endGo n r (o + (x.kids - 1)) (a + 1) else a + 1
def endF (L : List Nd) (a : Int) : Int := if a < 0 then -1 else endGo L.length (L.drop a.toNat) 1 a

theorem endGo_none {L : List Nd} {k : Nat} (h : L.length ≤ k) (n : Nat) (o a : Int) : endGo n (L.drop k) o a = -1 := by
  rw [List.drop_of_length_le h]; rfl
theorem endGo_some {L : List Nd} {k : Nat} {x : Nd} (h : L[k]? = some x) (n : Nat) (o a : Int) : endGo n (L.drop k) o a = if x.kids < 0 ∨ x.kids > n then -1 else if o + (x.kids - 1) > 0 then endGo n (L.drop (k + 1)) (o + (x.kids - 1)) (a + 1) else a + 1 := by
  obtain ⟨hk, rfl⟩ := List.getElem?_eq_some_iff.1 h
  rw [List.drop_eq_getElem_cons hk]; rfl

end Go.Proofs.YtamhkcnpocdfcaaGreatDoor
/- Nodes: the walk of tree.End. -/
namespace Go.Proofs.YtamhkcnpocdfcaaGreatDoor
open Go.Sx
attribute [local irreducible] Ylds astep alex alexE alexD awp PCall FCall RCall MCall QCall athen ablock ajump rpost fpost

theorem End_ok (L : List Nd) (at_ : Int) (hL : L.length ≤ 2000000) : PCall Tryz.prog 61 [nodes L, i64 at_] (i64 (endF L at_)) := by
  refine pcall_of Tryz.func61 rfl Tryz.ntmps61 Tryz.results61 rfl ?_
  intro wb St0
  repeat' first
    | refine en_n ?_
    | refine awp_seq ?_
    | refine awp_region ?_
    | refine alex_nil ?_
    | refine w0 ?_
    | apply ay (hd := rfl)
    | (apply Y_assign_d; exact rfl)
  refine awp_scopeF2 (α := Int × Nat) 0 rfl rfl (fun p => endGo L.length (L.drop p.2) p.1 p.2 = endF L at_ ∧ 1 ≤ p.1 ∧ p.1 ≤ 1 + p.2 * 2000000) (fun p => [(0, .d (nodes L)), (1, .d (i64 p.2)), (5, .d (i64 p.1))]) (fun _ => []) (fun p => L.length - p.2) ?_ ?_
  · skip
    repeat' first
      | refine en_n ?_
      | refine awp_seq ?_
      | refine awp_region ?_
      | refine alex_nil ?_
      | refine w0 ?_
      | apply ay (hd := rfl)
      | (apply Y_move_d; exact rfl)
      | (apply Y_assign_d; exact rfl)
      | (apply Y_lss; exact rfl; exact rfl)
      | (apply awp_condD; exact rfl; (intro hb); rotate_left; (intro hb); rotate_right)
      | refine awp_skip ?_
      | refine awp_ret ?_
      | refine en_r ?_
      | refine ej_r ?_
      | refine rpost_ret ?_
      | (apply res1; exact rfl)
    · rw [endF, if_pos hb]
    · refine ⟨(1, at_.toNat), ⟨?_, by omega, by simp only; omega⟩, Fits_mk (Le_cons rfl (Le_d rfl ?_ (Le_cons rfl Le_nil))) Pre_nil rfl rfl⟩
      · rw [endF, if_neg hb]; simp only; rw [Int.toNat_of_nonneg (by omega)]
      · simp only; rw [Int.toNat_of_nonneg (by omega)]
  · rintro ⟨o, k⟩ ⟨h1, h2, h3⟩
    dsimp only at h1 h2 h3 ⊢
    repeat' first
      | refine en_n ?_
      | refine awp_seq ?_
      | refine awp_region ?_
      | refine alex_nil ?_
      | refine w0 ?_
      | (apply aJ (hd := rfl); (first | exact Co_dd rfl | exact Co_bb rfl rfl rfl | exact Co_nn rfl); exact rfl; exact (by first | with_reducible exact es_nodes | with_reducible exact es_ints | with_reducible exact es_nodess); assumption; omega; exact fun _ => rfl)
      | (apply aI (hd := rfl); (first | exact Co_dd rfl | exact Co_bb rfl rfl rfl | exact Co_nn rfl); exact rfl; exact (by first | with_reducible exact es_nodes | with_reducible exact es_ints | with_reducible exact es_nodess); exact fun _ => rfl; rotate_left; intro v hv; rotate_right)
      | apply ay (hd := rfl)
      | (apply Y_move_d; exact rfl)
      | (apply Y_assign_d; exact rfl)
      | (apply Y_field_r; exact rfl; exact (by first | with_reducible exact fn_0 | with_reducible exact fn_1 | with_reducible exact fn_2 | with_reducible exact fn_3))
      | (apply Y_load_r1; exact rfl; exact (by first | with_reducible exact tcn_int | with_reducible exact tc_nodes | with_reducible exact tc_node | with_reducible exact tc_ints | with_reducible exact tcn_kind | with_reducible exact tcn_i64 | with_reducible exact tcn_str | with_reducible exact tcn_bool))
      | (apply Y_len_m; exact rfl; exact (by first | with_reducible exact et_nodes | with_reducible exact et_ints | with_reducible exact et_nodess))
      | (apply Y_lss; exact rfl; exact rfl)
      | (apply Y_gtr; exact rfl; exact rfl)
      | (apply Y_geq; exact rfl; exact rfl)
      | (apply Y_add; exact rfl; exact rfl)
      | (apply Y_sub; exact rfl; exact rfl)
      | (apply Y_pick_t; exact rfl; exact rfl)
      | (apply Y_pick_f; exact rfl; exact rfl)
      | (apply w1; exact rfl; exact rfl)
      | (apply k0 (hd := rfl); exact rfl; exact rfl)
      | (apply gD; exact rfl; exact rfl; (intro hb); rotate_left; (intro hb); rotate_right)
      | (apply awp_condD; exact rfl; (intro hb); rotate_left; (intro hb); rotate_right)
      | (apply awp_condT; exact rfl)
      | refine awp_skip ?_
      | refine awp_ret ?_
      | refine awp_goto ?_
      | refine en_r ?_
      | refine en_g ?_
      | refine ej_r ?_
      | refine ej_g ?_
      | refine rpost_ret ?_
      | (apply res1; exact rfl)
    all_goals try omega
    · rw [← h1, endGo_none (by omega)]
    · rw [← h1, endGo_some (k := k) hv, if_pos (by omega)]
    · rw [← h1, endGo_some (k := k) hv, if_pos (by omega)]
    · rw [endGo_some (k := k) hv, if_neg (by omega), if_pos (by omega)] at h1
      refine ⟨(o + (v.kids - 1), k + 1), ⟨h1, by simp only; omega, by simp only; omega⟩, ?_, Fits_mk (Le_cons rfl (Le_cons rfl (Le_cons rfl Le_nil))) Pre_nil rfl rfl⟩
      simp only; omega
    · rw [← h1, endGo_some (k := k) hv, if_neg (by omega), if_neg (by omega)]
end Go.Proofs.YtamhkcnpocdfcaaGreatDoor
/- Nodes: the walks of Whole, the reference's End and Whole, Kids (both), Index, Contains. -/
namespace Go.Proofs.YtamhkcnpocdfcaaGreatDoor
open Go.Sx
attribute [local irreducible] Ylds astep alex alexE alexD awp PCall FCall RCall MCall QCall athen ablock ajump rpost fpost

theorem hb_rEnd : hasBody Tryz.prog 56 = true := by kernel_rfl

def wholeF (L : List Nd) : Bool := decide (L.length > 0) && decide (endF L 0 = L.length)

theorem Whole_ok (L : List Nd) (hL : L.length ≤ 2000000) : PCall Tryz.prog 30 [nodes L] (bl (wholeF L)) := by
  refine pcall_of Tryz.func30 rfl Tryz.ntmps30 Tryz.results30 rfl ?_
  intro wb St0
  repeat' first
    | refine en_n ?_
    | refine awp_seq ?_
    | refine awp_region ?_
    | refine alex_nil ?_
    | refine w0 ?_
    | (apply Y_call (hb := hb_End) (hc := End_ok L _ hL))
    | apply ay (hd := rfl)
    | (apply Y_move_d; exact rfl)
    | (apply Y_assign_d; exact rfl)
    | (apply Y_len_m; exact rfl; exact (by first | with_reducible exact et_nodes | with_reducible exact et_ints | with_reducible exact et_nodess))
    | (apply Y_gtr; exact rfl; exact rfl)
    | (apply Y_eql; exact rfl; exact rfl)
    | (apply Y_pick_t; exact rfl; exact rfl)
    | (apply Y_pick_f; exact rfl; exact rfl)
    | (apply w1; exact rfl; exact rfl)
    | (apply k1 (hd := rfl); exact rfl; exact rfl)
    | (apply gD; exact rfl; exact rfl; (intro hb); rotate_left; (intro hb); rotate_right)
    | refine awp_ret ?_
    | refine rpost_ret ?_
    | (apply res1; exact rfl)
    | exact CoL_nil
    | refine CoL_d rfl ?_
  · have h : 0 < L.length := by omega
    simp [wholeF, h]
  · have h : ¬ 0 < L.length := by omega
    simp [wholeF, h]

/-! ### the trees behind one another -/
theorem endGo_neg {n : Nat} : ∀ (r : List Nd) (o a : Int), 0 ≤ a → endGo n r o a = -1 ∨ a < endGo n r o a ∧ endGo n r o a ≤ a + r.length
  | [], _, _, _ => .inl rfl
  | x :: r, o, a, ha => by
    unfold endGo
    split
    · exact .inl rfl
    · split
      · rcases endGo_neg r (o + (x.kids - 1)) (a + 1) (by omega) with h | h
        · exact .inl h
        · refine .inr ⟨by omega, ?_⟩; simp only [List.length_cons]; omega
      · refine .inr ⟨by omega, ?_⟩; simp only [List.length_cons]; omega

theorem endF_bd (L : List Nd) (a : Int) : endF L a = -1 ∨ (0 ≤ a ∧ a < endF L a ∧ endF L a ≤ L.length) := by
  unfold endF
  split
  · exact .inl rfl
  · rcases endGo_neg (n := L.length) (L.drop a.toNat) 1 a (by omega) with h | h
    · exact .inl h
    · refine .inr ⟨by omega, h.1, ?_⟩
      have h2 := h.2
      rw [List.length_drop] at h2
      rcases Nat.lt_or_ge a.toNat L.length with h3 | h3
      · omega
      · have h4 := h.1
        rw [List.drop_of_length_le h3] at h4
        simp only [endGo] at h4; omega

/-- p trees and q behind them -/
theorem endGo_add (L : List Nd) : ∀ (m k : Nat) (p q : Int), L.length - k ≤ m → 1 ≤ p → 1 ≤ q → endGo L.length (L.drop k) (p + q) k = if endGo L.length (L.drop k) p k < 0 then -1 else endGo L.length (L.drop (endGo L.length (L.drop k) p k).toNat) q (endGo L.length (L.drop k) p k) := by
  intro m
  induction m with
  | zero =>
    intro k p q hm _ _
    rw [endGo_none (by omega), endGo_none (by omega)]; rfl
  | succ m ih =>
    intro k p q hm hp hq
    rcases Nat.lt_or_ge k L.length with hk | hk
    · have hv : L[k]? = some L[k] := List.getElem?_eq_getElem hk
      rw [endGo_some hv, endGo_some hv]
      by_cases hbad : L[k].kids < 0 ∨ L[k].kids > L.length
      · rw [if_pos hbad, if_pos hbad]; rfl
      · rw [if_neg hbad, if_neg hbad]
        rw [if_pos (show p + q + (L[k].kids - 1) > 0 by omega)]
        by_cases h1 : p + (L[k].kids - 1) > 0
        · rw [if_pos h1]
          have := ih (k + 1) (p + (L[k].kids - 1)) q (by omega) (by omega) hq
          rw [show p + q + (L[k].kids - 1) = p + (L[k].kids - 1) + q by omega]
          exact this
        · rw [if_neg h1, if_neg (by omega)]
          rw [show p + q + (L[k].kids - 1) = q by omega]
          rfl
    · rw [endGo_none hk, endGo_none hk]; rfl

/-- i trees behind one another from a place on -/
def seqE (L : List Nd) (a : Int) : Nat → Int
  | 0 => a
  | i + 1 => if seqE L a i < 0 then -1 else endF L (seqE L a i)

theorem seqE_eq (L : List Nd) (k : Nat) : ∀ (i : Nat), seqE L k (i + 1) = endGo L.length (L.drop k) (i + 1) k
  | 0 => by
    have h0 : ¬ seqE L (k : Int) 0 < 0 := by simp only [seqE]; omega
    have h1 : ¬ (k : Int) < 0 := by omega
    unfold seqE
    rw [if_neg h0]
    show endF L (k : Int) = _
    rw [endF, if_neg h1, Int.toNat_natCast]; rfl
  | i + 1 => by
    have ih := seqE_eq L k i
    show (if seqE L k (i + 1) < 0 then _ else _) = _
    rw [ih, show ((i + 1 : Nat) : Int) + 1 = (i : Int) + 1 + 1 by omega, endGo_add L _ k ((i : Int) + 1) 1 (Nat.le_refl _) (by omega) (by omega)]
    split
    · rfl
    · rename_i h; rw [endF, if_neg h]

theorem endF_rec {L : List Nd} {k : Nat} {x : Nd} (h : L[k]? = some x) : endF L k = if x.kids < 0 ∨ x.kids > L.length then -1 else seqE L ((k : Int) + 1) x.kids.toNat := by
  rw [endF, if_neg (by omega), Int.toNat_natCast, endGo_some h]
  split
  · rfl
  · rename_i hb
    by_cases h1 : 1 + (x.kids - 1) > 0
    · rw [if_pos h1]
      obtain ⟨i, hi⟩ : ∃ i : Nat, x.kids.toNat = i + 1 := ⟨x.kids.toNat - 1, by omega⟩
      rw [hi]
      have := seqE_eq L (k + 1) i
      rw [show ((k + 1 : Nat) : Int) = (k : Int) + 1 by omega] at this
      rw [this]
      congr 1
      omega
    · rw [if_neg h1]
      have : x.kids.toNat = 0 := by omega
      rw [this]; rfl

theorem seqE_neg {L : List Nd} {a : Int} {i : Nat} (h : seqE L a i < 0) : ∀ j, i ≤ j → seqE L a j < 0 := by
  intro j hj
  induction j with
  | zero => rw [show i = 0 by omega] at h; exact h
  | succ j ih =>
    rcases Nat.lt_or_ge j i with h1 | h1
    · rw [show j + 1 = i by omega]; exact h
    · show (if seqE L a j < 0 then _ else _) < 0
      rw [if_pos (ih h1)]; omega

theorem seqE_succ {L : List Nd} {a : Int} {i : Nat} (h : 0 ≤ seqE L a i) : seqE L a (i + 1) = endF L (seqE L a i) := by
  show (if seqE L a i < 0 then _ else _) = _
  rw [if_neg (by omega)]
theorem seqE_ge {L : List Nd} {a : Int} : ∀ {i : Nat}, 0 ≤ seqE L a i → a + i ≤ seqE L a i
  | 0, _ => by simp only [seqE]; omega
  | i + 1, h => by
    rcases Int.lt_or_le (seqE L a i) 0 with h1 | h1
    · have := seqE_neg h1 (i + 1) (by omega); omega
    · have := seqE_ge h1
      rw [seqE_succ h1] at h ⊢
      rcases endF_bd L (seqE L a i) with h2 | h2 <;> omega
theorem seqE_neg1 {L : List Nd} {a : Int} (ha : 0 ≤ a) : ∀ {i : Nat}, seqE L a i < 0 → seqE L a i = -1
  | 0, h => by change a < 0 at h; omega
  | i + 1, h => by
    change (if seqE L a i < 0 then _ else _) < 0 at h
    show (if seqE L a i < 0 then _ else _) = _
    split
    · rfl
    · rename_i h1; rw [if_neg h1] at h; rcases endF_bd L (seqE L a i) with h2 | h2 <;> omega

theorem endF_out {L : List Nd} {a : Int} (h : a < 0 ∨ (L.length : Int) ≤ a) : endF L a = -1 := by
  rcases endF_bd L a with h1 | h1 <;> omega

/-- the reference's End is the same -/
theorem rEnd_ok (L : List Nd) (hL : L.length ≤ 2000000) : ∀ (m : Nat) (at_ : Int), (L.length : Int) - at_ ≤ m → PCall Tryz.prog 56 [nodes L, i64 at_] (i64 (endF L at_)) := by
  intro m
  induction m with
  | zero =>
    intro at_ hm
    refine pcall_of Tryz.func56 rfl Tryz.ntmps56 Tryz.results56 rfl ?_
    intro wb St0
    repeat' first
      | refine en_n ?_
      | refine awp_seq ?_
      | refine awp_region ?_
      | refine alex_nil ?_
      | refine w0 ?_
      | (apply aJ (hd := rfl); (first | exact Co_dd rfl | exact Co_bb rfl rfl rfl | exact Co_nn rfl); exact rfl; exact (by first | with_reducible exact es_nodes | with_reducible exact es_ints | with_reducible exact es_nodess); assumption; omega; exact fun _ => rfl)
      | (apply aI (hd := rfl); (first | exact Co_dd rfl | exact Co_bb rfl rfl rfl | exact Co_nn rfl); exact rfl; exact (by first | with_reducible exact es_nodes | with_reducible exact es_ints | with_reducible exact es_nodess); exact fun _ => rfl; rotate_left; intro v hv; rotate_right)
      | apply ay (hd := rfl)
      | (apply Y_move_d; exact rfl)
      | (apply Y_assign_d; exact rfl)
      | (apply Y_field_r; exact rfl; exact (by first | with_reducible exact fn_0 | with_reducible exact fn_1 | with_reducible exact fn_2 | with_reducible exact fn_3))
      | (apply Y_load_r1; exact rfl; exact (by first | with_reducible exact tcn_int | with_reducible exact tc_nodes | with_reducible exact tc_node | with_reducible exact tc_ints | with_reducible exact tcn_kind | with_reducible exact tcn_i64 | with_reducible exact tcn_str | with_reducible exact tcn_bool))
      | (apply Y_len_m; exact rfl; exact (by first | with_reducible exact et_nodes | with_reducible exact et_ints | with_reducible exact et_nodess))
      | (apply Y_lss; exact rfl; exact rfl)
      | (apply Y_gtr; exact rfl; exact rfl)
      | (apply Y_geq; exact rfl; exact rfl)
      | (apply Y_add; exact rfl; exact rfl)
      | (apply Y_pick_t; exact rfl; exact rfl)
      | (apply Y_pick_f; exact rfl; exact rfl)
      | (apply w1; exact rfl; exact rfl)
      | (apply k0 (hd := rfl); exact rfl; exact rfl)
      | (apply gD; exact rfl; exact rfl; (intro hb); rotate_left; (intro hb); rotate_right)
      | (apply awp_condD; exact rfl; (intro hb); rotate_left; (intro hb); rotate_right)
      | (apply awp_condT; exact rfl)
      | refine awp_block ?_
      | refine awp_skip ?_
      | refine awp_ret ?_
      | refine en_r ?_
      | refine rpost_ret ?_
      | (apply res1; exact rfl)
    all_goals try omega
    all_goals rw [endF_out (by omega)]
  | succ m ih =>
    intro at_ hm
    refine pcall_of Tryz.func56 rfl Tryz.ntmps56 Tryz.results56 rfl ?_
    intro wb St0
    repeat' first
      | refine en_n ?_
      | refine awp_seq ?_
      | refine awp_region ?_
      | refine alex_nil ?_
      | refine w0 ?_
      | (apply aJ (hd := rfl); (first | exact Co_dd rfl | exact Co_bb rfl rfl rfl | exact Co_nn rfl); exact rfl; exact (by first | with_reducible exact es_nodes | with_reducible exact es_ints | with_reducible exact es_nodess); assumption; omega; exact fun _ => rfl)
      | (apply aI (hd := rfl); (first | exact Co_dd rfl | exact Co_bb rfl rfl rfl | exact Co_nn rfl); exact rfl; exact (by first | with_reducible exact es_nodes | with_reducible exact es_ints | with_reducible exact es_nodess); exact fun _ => rfl; rotate_left; intro v hv; rotate_right)
      | apply ay (hd := rfl)
      | (apply Y_move_d; exact rfl)
      | (apply Y_assign_d; exact rfl)
      | (apply Y_field_r; exact rfl; exact (by first | with_reducible exact fn_0 | with_reducible exact fn_1 | with_reducible exact fn_2 | with_reducible exact fn_3))
      | (apply Y_load_r1; exact rfl; exact (by first | with_reducible exact tcn_int | with_reducible exact tc_nodes | with_reducible exact tc_node | with_reducible exact tc_ints | with_reducible exact tcn_kind | with_reducible exact tcn_i64 | with_reducible exact tcn_str | with_reducible exact tcn_bool))
      | (apply Y_len_m; exact rfl; exact (by first | with_reducible exact et_nodes | with_reducible exact et_ints | with_reducible exact et_nodess))
      | (apply Y_lss; exact rfl; exact rfl)
      | (apply Y_gtr; exact rfl; exact rfl)
      | (apply Y_geq; exact rfl; exact rfl)
      | (apply Y_add; exact rfl; exact rfl)
      | (apply Y_pick_t; exact rfl; exact rfl)
      | (apply Y_pick_f; exact rfl; exact rfl)
      | (apply w1; exact rfl; exact rfl)
      | (apply k0 (hd := rfl); exact rfl; exact rfl)
      | (apply gD; exact rfl; exact rfl; (intro hb); rotate_left; (intro hb); rotate_right)
      | (apply awp_condD; exact rfl; (intro hb); rotate_left; (intro hb); rotate_right)
      | (apply awp_condT; exact rfl)
      | refine awp_block ?_
      | refine awp_skip ?_
      | refine awp_ret ?_
      | refine en_r ?_
      | refine rpost_ret ?_
      | (apply res1; exact rfl)
    all_goals try omega
    · rw [endF_out (by omega)]
    · rw [endF_out (by omega)]
    · obtain ⟨k, rfl⟩ := Int.eq_ofNat_of_zero_le (show 0 ≤ at_ by omega)
      rw [endF_rec (k := k) hv, if_pos (by omega)]
    · obtain ⟨k, rfl⟩ := Int.eq_ofNat_of_zero_le (show 0 ≤ at_ by omega)
      rw [endF_rec (k := k) hv, if_pos (by omega)]
    · obtain ⟨k, rfl⟩ := Int.eq_ofNat_of_zero_le (show 0 ≤ at_ by omega)
      have he := endF_rec (k := k) hv
      rw [if_neg (by omega)] at he
      refine awp_loopF (α := Nat) (fun i => i ≤ v.kids.toNat ∧ 0 ≤ seqE L ((k : Int) + 1) i) (fun i => [(0, .d (nodes L)), (1, .d (i64 (k : Int))), (5, .d (i64 (seqE L ((k : Int) + 1) i))), (6, .d (i64 (i : Int)))]) (fun _ => []) (fun i => v.kids.toNat - i) 0 ⟨Nat.zero_le _, by simp only [seqE]; omega⟩
        (Fits_mk (Le_cons rfl (Le_cons rfl (Le_cons rfl (Le_cons rfl Le_nil)))) Pre_nil rfl rfl) ?_
      rintro i ⟨hi1, hi2⟩
      have hg := seqE_ge hi2
      repeat' first
        | refine en_n ?_
        | refine awp_seq ?_
        | refine awp_region ?_
        | refine alex_nil ?_
        | refine w0 ?_
        | (apply Y_call (hb := hb_rEnd) (hc := ih _ _))
        | (apply aJ (hd := rfl); (first | exact Co_dd rfl | exact Co_bb rfl rfl rfl | exact Co_nn rfl); exact rfl; exact (by first | with_reducible exact es_nodes | with_reducible exact es_ints | with_reducible exact es_nodess); assumption; omega; exact fun _ => rfl)
        | apply ay (hd := rfl)
        | (apply Y_move_d; exact rfl)
        | (apply Y_assign_d; exact rfl)
        | (apply Y_field_r; exact rfl; exact (by first | with_reducible exact fn_0 | with_reducible exact fn_1 | with_reducible exact fn_2 | with_reducible exact fn_3))
        | (apply Y_load_r1; exact rfl; exact (by first | with_reducible exact tcn_int | with_reducible exact tc_nodes | with_reducible exact tc_node | with_reducible exact tc_ints | with_reducible exact tcn_kind | with_reducible exact tcn_i64 | with_reducible exact tcn_str | with_reducible exact tcn_bool))
        | (apply Y_lss; exact rfl; exact rfl)
        | (apply Y_add; exact rfl; exact rfl)
        | (apply awp_condD; exact rfl; (intro hb); rotate_left; (intro hb); rotate_right)
        | refine awp_block ?_
        | refine awp_skip ?_
        | refine awp_ret ?_
        | refine awp_exit ?_
        | refine en_r ?_
        | refine en_e ?_
        | refine eb_n ?_
        | refine eb_r ?_
        | refine eb_e ?_
        | refine rpost_ret ?_
        | (apply res1; exact rfl)
        | exact CoL_nil
        | refine CoL_d rfl ?_
      · omega
      · have h1 := seqE_succ hi2
        have h2 := seqE_neg1 (a := (k : Int) + 1) (by omega) (seqE_neg (j := v.kids.toNat) (show seqE L ((k : Int) + 1) (i + 1) < 0 by omega) (by omega))
        rw [he, h2]
      · omega
      · refine ⟨i + 1, ⟨by omega, by rw [seqE_succ hi2]; omega⟩, by omega, Fits_mk (Le_cons rfl (Le_cons rfl (Le_d rfl ?_ (Le_cons rfl Le_nil)))) Pre_nil rfl rfl⟩
        rw [seqE_succ hi2]
      · rw [he, show i = v.kids.toNat by omega]

theorem rEnd (L : List Nd) (at_ : Int) (hL : L.length ≤ 2000000) : PCall Tryz.prog 56 [nodes L, i64 at_] (i64 (endF L at_)) := rEnd_ok L hL ((L.length : Int) - at_).toNat at_ (by omega)

theorem rWhole_ok (L : List Nd) (hL : L.length ≤ 2000000) : PCall Tryz.prog 28 [nodes L] (bl (wholeF L)) := by
  refine pcall_of Tryz.func28 rfl Tryz.ntmps28 Tryz.results28 rfl ?_
  intro wb St0
  repeat' first
    | refine en_n ?_
    | refine awp_seq ?_
    | refine awp_region ?_
    | refine alex_nil ?_
    | refine w0 ?_
    | (apply Y_call (hb := hb_rEnd) (hc := rEnd L _ hL))
    | apply ay (hd := rfl)
    | (apply Y_move_d; exact rfl)
    | (apply Y_assign_d; exact rfl)
    | (apply Y_len_m; exact rfl; exact (by first | with_reducible exact et_nodes | with_reducible exact et_ints | with_reducible exact et_nodess))
    | (apply Y_gtr; exact rfl; exact rfl)
    | (apply Y_eql; exact rfl; exact rfl)
    | (apply Y_pick_t; exact rfl; exact rfl)
    | (apply Y_pick_f; exact rfl; exact rfl)
    | (apply w1; exact rfl; exact rfl)
    | (apply k1 (hd := rfl); exact rfl; exact rfl)
    | (apply gD; exact rfl; exact rfl; (intro hb); rotate_left; (intro hb); rotate_right)
    | refine awp_ret ?_
    | refine rpost_ret ?_
    | (apply res1; exact rfl)
    | exact CoL_nil
    | refine CoL_d rfl ?_
  · have h : 0 < L.length := by omega
    simp [wholeF, h]
  · have h : ¬ 0 < L.length := by omega
    simp [wholeF, h]

/-! ### where kids are -/
def kidsN (L : List Nd) (a : Int) : Nat := match L[a.toNat]? with
  | some x => x.kids.toNat
  | none => 0
def kidsF (L : List Nd) (a : Int) : List Int := if endF L a < 0 then [] else (List.range (kidsN L a)).map (seqE L (a + 1))

theorem ival_flat : ∀ v : Int, (ival v).flat.length = 1 := fun _ => rfl

theorem kid_at {L : List Nd} {a : Int} (h : ¬ endF L a < 0) : ∃ (k : Nat) (x : Nd), a = k ∧ L[k]? = some x ∧ 0 ≤ x.kids ∧ x.kids ≤ L.length ∧ endF L a = seqE L (a + 1) x.kids.toNat ∧ kidsN L a = x.kids.toNat ∧ kidsF L a = (List.range x.kids.toNat).map (seqE L (a + 1)) := by
  have hb := endF_bd L a
  obtain ⟨k, rfl⟩ := Int.eq_ofNat_of_zero_le (show 0 ≤ a by omega)
  have hk : k < L.length := by omega
  have hv : L[k]? = some L[k] := List.getElem?_eq_getElem hk
  have he := endF_rec hv
  have hg : ¬ (L[k].kids < 0 ∨ L[k].kids > L.length) := fun h0 => by rw [if_pos h0] at he; omega
  rw [if_neg hg] at he
  have hkn : kidsN L (k : Int) = L[k].kids.toNat := by unfold kidsN; rw [Int.toNat_natCast, hv]
  exact ⟨k, L[k], rfl, hv, by omega, by omega, he, hkn, by rw [kidsF, if_neg h, hkn]⟩

theorem kids_snoc (f : Nat → Int) (i : Nat) : ((List.range i).map f).map ival ++ [i64 (f i)] = ((List.range (i + 1)).map f).map ival := by
  rw [List.range_succ, List.map_append, List.map_append]; rfl

theorem Kids_ok (L : List Nd) (at_ : Int) (hL : L.length ≤ 2000000) : PCall Tryz.prog 69 [nodes L, i64 at_] (nints (kidsF L at_)) := by
  refine pcall_of Tryz.func69 rfl Tryz.ntmps69 Tryz.results69 rfl ?_
  intro wb St0
  repeat' first
    | refine en_n ?_
    | refine awp_seq ?_
    | refine awp_region ?_
    | refine alex_nil ?_
    | refine w0 ?_
    | (apply Y_call (hb := hb_End) (hc := End_ok L _ hL))
    | (apply aI (hd := rfl); (first | exact Co_dd rfl | exact Co_bb rfl rfl rfl | exact Co_nn rfl); exact rfl; exact (by first | with_reducible exact es_nodes | with_reducible exact es_ints | with_reducible exact es_nodess); exact fun _ => rfl; rotate_left; intro v hv; rotate_right)
    | apply ay (hd := rfl)
    | (apply Y_move_d; exact rfl)
    | (apply Y_assign_d; exact rfl)
    | (apply Y_field_r; exact rfl; exact (by first | with_reducible exact fn_0 | with_reducible exact fn_1 | with_reducible exact fn_2 | with_reducible exact fn_3))
    | (apply Y_load_r1; exact rfl; exact (by first | with_reducible exact tcn_int | with_reducible exact tc_nodes | with_reducible exact tc_node | with_reducible exact tc_ints | with_reducible exact tcn_kind | with_reducible exact tcn_i64 | with_reducible exact tcn_str | with_reducible exact tcn_bool))
    | (apply Y_lss; exact rfl; exact rfl)
    | (apply Y_add; exact rfl; exact rfl)
    | (apply Y_assign_nil; exact rfl)
    | (apply awp_condD; exact rfl; (intro hb); rotate_left; (intro hb); rotate_right)
    | refine awp_block ?_
    | refine awp_skip ?_
    | refine awp_ret ?_
    | refine en_r ?_
    | refine rpost_ret ?_
    | (apply res1n; exact rfl)
    | exact CoL_nil
    | refine CoL_d rfl ?_
  · rw [kidsF, if_pos hb]; rfl
  · have := endF_bd L at_; omega
  · have := endF_bd L at_; omega
  · obtain ⟨k, x, hak, hx, h0, h1, he, hn, hf⟩ := kid_at hb
    subst hak
    obtain rfl : v = x := by rw [Int.toNat_natCast] at hv; rw [hx] at hv; exact (Option.some.inj hv).symm
    refine awp_newbuf 5 false 3 1 rfl rfl ?_
    refine awp_loopF (α := Nat) (fun i => i ≤ v.kids.toNat ∧ 0 ≤ seqE L ((k : Int) + 1) i) (fun i => [(0, .d (nodes L)), (1, .d (i64 (seqE L ((k : Int) + 1) i))), (5, .buf 0 (((List.range i).map (seqE L ((k : Int) + 1))).map ival).length), (6, .d (i64 v.kids))])
      (fun i => [.buf false 3 1 (((List.range i).map (seqE L ((k : Int) + 1))).map ival)]) (fun i => v.kids.toNat - i) 0 ⟨Nat.zero_le _, by simp only [seqE]; omega⟩
      (Fits_mk (Le_cons rfl (Le_cons rfl (Le_buf rfl rfl (Le_cons rfl Le_nil)))) (Pre_cons rfl rfl Pre_nil) rfl rfl) ?_
    rintro i ⟨hi1, hi2⟩
    have hg := seqE_ge hi2
    repeat' first
      | refine en_n ?_
      | refine awp_seq ?_
      | refine awp_region ?_
      | refine alex_nil ?_
      | refine w0 ?_
      | (apply Y_call (hb := hb_End) (hc := End_ok L _ hL))
      | (apply aApp (hd := rfl) (hro := rfl); exact rfl; exact rfl; (first | exact Co_dd rfl | exact Co_bb rfl rfl rfl | exact Co_nn rfl); (first | exact rfl | (simp; done)); exact rfl; exact (by first | with_reducible exact ety_nodes | with_reducible exact ety_ints | with_reducible exact ety_nodess); exact (by first | with_reducible exact es_nodes | with_reducible exact es_ints | with_reducible exact es_nodess); exact (by first | with_reducible exact zl_node | with_reducible exact zl_int | with_reducible exact zl_nodes); exact (by first | with_reducible exact by_nodes | with_reducible exact by_ints | with_reducible exact by_nodess); (first | exact sz_map (fun _ => rfl) | exact sz_lit rfl))
      | apply ay (hd := rfl)
      | (apply Y_move_d; exact rfl)
      | (apply Y_assign_d; exact rfl)
      | (apply Y_lss; exact rfl; exact rfl)
      | (apply Y_move_buf; exact rfl)
      | (apply Y_assign_buf; exact rfl)
      | (apply Y_len_buf; exact rfl; exact (by first | with_reducible exact et_nodes | with_reducible exact et_ints | with_reducible exact et_nodess))
      | (apply Y_lit1; exact (by first | with_reducible exact ety_nodes | with_reducible exact ety_ints | with_reducible exact ety_nodess); exact (by first | with_reducible exact es_nodes | with_reducible exact es_ints | with_reducible exact es_nodess); exact (by first | with_reducible exact zs_node | with_reducible exact zs_int | with_reducible exact zs_nodes); exact rfl; exact rfl; (first | exact CoL_d rfl CoL_nil | exact CoL_b rfl rfl rfl CoL_nil | exact CoL_n rfl CoL_nil); exact rfl)
      | (apply awp_condD; exact rfl; (intro hb); rotate_left; (intro hb); rotate_right)
      | refine awp_block ?_
      | refine awp_skip ?_
      | refine awp_ret ?_
      | refine awp_exit ?_
      | refine en_e ?_
      | refine eb_n ?_
      | refine eb_e ?_
      | refine rpost_ret ?_
      | (apply res1b; exact rfl; exact rfl; (first | exact rfl | (simp; done)))
      | exact CoL_nil
      | refine CoL_d rfl ?_
    · simp only [List.length_map, List.length_range, List.length_singleton]; omega
    · simp only [List.length_map, List.length_range] at hb
      have h3 : 0 ≤ seqE L ((k : Int) + 1) (i + 1) := by
        rcases Int.lt_or_le (seqE L ((k : Int) + 1) (i + 1)) 0 with h4 | h4
        · have := seqE_neg (j := v.kids.toNat) h4 (by omega); omega
        · exact h4
      refine ⟨i + 1, ⟨by omega, h3⟩, by omega, ?_⟩
      refine Fits_mk (Le_cons rfl (Le_d rfl ?_ (Le_buf rfl ?_ (Le_cons rfl Le_nil)))) (Pre_buf rfl rfl (kids_snoc _ i).symm Pre_nil) rfl rfl
      · rw [seqE_succ hi2]
      · simp only [List.length_map, List.length_range, List.length_singleton]
    · simp only [List.length_map, List.length_range] at hb
      rw [hf, show i = v.kids.toNat by omega]; rfl
end Go.Proofs.YtamhkcnpocdfcaaGreatDoor
/- Nodes: where kids are (the reference), copies, parts. -/
namespace Go.Proofs.YtamhkcnpocdfcaaGreatDoor
open Go.Sx Go.RowKit
attribute [local irreducible] Ylds astep alex alexE alexD awp PCall FCall RCall MCall QCall athen ablock ajump rpost fpost

theorem rKids_ok (L : List Nd) (at_ : Int) (hL : L.length ≤ 2000000) : PCall Tryz.prog 38 [nodes L, i64 at_] (nints (kidsF L at_)) := by
  refine pcall_of Tryz.func38 rfl Tryz.ntmps38 Tryz.results38 rfl ?_
  intro wb St0
  repeat' first
    | refine en_n ?_
    | refine awp_seq ?_
    | refine awp_region ?_
    | refine alex_nil ?_
    | refine w0 ?_
    | (apply aLit0 (hd := rfl) (hro := rfl); exact ety_ints; exact es_ints; exact zs_int; exact rfl)
    | (apply Y_call (hb := hb_rEnd) (hc := rEnd L _ hL))
    | apply ay (hd := rfl)
    | (apply Y_move_d; exact rfl)
    | (apply Y_assign_d; exact rfl)
    | (apply Y_lss; exact rfl; exact rfl)
    | (apply Y_add; exact rfl; exact rfl)
    | (apply Y_assign_nil; exact rfl)
    | (apply Y_move_buf; exact rfl)
    | (apply Y_assign_buf; exact rfl)
    | (apply awp_condD; exact rfl; (intro hb); rotate_left; (intro hb); rotate_right)
    | refine awp_block ?_
    | refine awp_skip ?_
    | refine awp_ret ?_
    | refine en_r ?_
    | refine rpost_ret ?_
    | (apply res1b; exact rfl; exact rfl; (first | exact rfl | (simp; done)))
    | exact CoL_nil
    | refine CoL_d rfl ?_
  · rw [kidsF, if_pos hb]; rfl
  · have := endF_bd L at_; omega
  · obtain ⟨k, x, hak, hx, h0, h1, he, hn, hf⟩ := kid_at hb
    subst hak
    refine awp_loopF (α := Nat) (fun i => i ≤ x.kids.toNat ∧ 0 ≤ seqE L ((k : Int) + 1) i) (fun i => [(0, .d (nodes L)), (1, .d (i64 (k : Int))), (5, .buf 0 (((List.range i).map (seqE L ((k : Int) + 1))).map ival).length), (6, .d (i64 (seqE L ((k : Int) + 1) i))), (7, .d (i64 (i : Int)))])
      (fun i => [.buf false 3 1 (((List.range i).map (seqE L ((k : Int) + 1))).map ival)]) (fun i => x.kids.toNat - i) 0 ⟨Nat.zero_le _, by simp only [seqE]; omega⟩
      (Fits_mk (Le_cons rfl (Le_cons rfl (Le_cons rfl (Le_cons rfl (Le_cons rfl Le_nil))))) (Pre_cons rfl rfl Pre_nil) rfl rfl) ?_
    rintro i ⟨hi1, hi2⟩
    have hg := seqE_ge hi2
    have hk := (List.getElem?_eq_some_iff.1 hx).1
    repeat' first
      | refine en_n ?_
      | refine awp_seq ?_
      | refine awp_region ?_
      | refine alex_nil ?_
      | refine w0 ?_
      | (apply Y_call (hb := hb_rEnd) (hc := rEnd L _ hL))
      | (apply aJ (hd := rfl); (first | exact Co_dd rfl | exact Co_bb rfl rfl rfl | exact Co_nn rfl); exact rfl; exact (by first | with_reducible exact es_nodes | with_reducible exact es_ints | with_reducible exact es_nodess); assumption; omega; exact fun _ => rfl)
      | (apply aApp (hd := rfl) (hro := rfl); exact rfl; exact rfl; (first | exact Co_dd rfl | exact Co_bb rfl rfl rfl | exact Co_nn rfl); (first | exact rfl | (simp; done)); exact rfl; exact (by first | with_reducible exact ety_nodes | with_reducible exact ety_ints | with_reducible exact ety_nodess); exact (by first | with_reducible exact es_nodes | with_reducible exact es_ints | with_reducible exact es_nodess); exact (by first | with_reducible exact zl_node | with_reducible exact zl_int | with_reducible exact zl_nodes); exact (by first | with_reducible exact by_nodes | with_reducible exact by_ints | with_reducible exact by_nodess); (first | exact sz_map (fun _ => rfl) | exact sz_lit rfl))
      | apply ay (hd := rfl)
      | (apply Y_move_d; exact rfl)
      | (apply Y_assign_d; exact rfl)
      | (apply Y_field_r; exact rfl; exact (by first | with_reducible exact fn_0 | with_reducible exact fn_1 | with_reducible exact fn_2 | with_reducible exact fn_3))
      | (apply Y_load_r1; exact rfl; exact (by first | with_reducible exact tcn_int | with_reducible exact tc_nodes | with_reducible exact tc_node | with_reducible exact tc_ints | with_reducible exact tcn_kind | with_reducible exact tcn_i64 | with_reducible exact tcn_str | with_reducible exact tcn_bool))
      | (apply Y_lss; exact rfl; exact rfl)
      | (apply Y_add; exact rfl; exact rfl)
      | (apply Y_move_buf; exact rfl)
      | (apply Y_assign_buf; exact rfl)
      | (apply Y_lit1; exact (by first | with_reducible exact ety_nodes | with_reducible exact ety_ints | with_reducible exact ety_nodess); exact (by first | with_reducible exact es_nodes | with_reducible exact es_ints | with_reducible exact es_nodess); exact (by first | with_reducible exact zs_node | with_reducible exact zs_int | with_reducible exact zs_nodes); exact rfl; exact rfl; (first | exact CoL_d rfl CoL_nil | exact CoL_b rfl rfl rfl CoL_nil | exact CoL_n rfl CoL_nil); exact rfl)
      | (apply awp_condD; exact rfl; (intro hb); rotate_left; (intro hb); rotate_right)
      | refine awp_block ?_
      | refine awp_skip ?_
      | refine awp_ret ?_
      | refine awp_exit ?_
      | refine en_e ?_
      | refine eb_n ?_
      | refine eb_e ?_
      | refine rpost_ret ?_
      | (apply res1b; exact rfl; exact rfl; (first | exact rfl | (simp; done)))
      | exact CoL_nil
      | refine CoL_d rfl ?_
    · simp only [List.length_map, List.length_range, List.length_singleton]; omega
    · omega
    · have h3 : 0 ≤ seqE L ((k : Int) + 1) (i + 1) := by
        rcases Int.lt_or_le (seqE L ((k : Int) + 1) (i + 1)) 0 with h4 | h4
        · have := seqE_neg (j := x.kids.toNat) h4 (by omega); omega
        · exact h4
      refine ⟨i + 1, ⟨by omega, h3⟩, by omega, ?_⟩
      refine Fits_mk (Le_cons rfl (Le_cons rfl (Le_buf rfl ?_ (Le_d rfl ?_ (Le_cons rfl Le_nil))))) (Pre_buf rfl rfl (kids_snoc _ i).symm Pre_nil) rfl rfl
      · simp only [List.length_map, List.length_range, List.length_singleton]
      · rw [seqE_succ hi2]
    · rw [hf, show i = x.kids.toNat by omega]; rfl

theorem own_ok (L : List Nd) (hL : L.length ≤ 2000000) : PCall Tryz.prog 8 [nodes L] (nodes L) := by
  refine pcall_of Tryz.func8 rfl Tryz.ntmps8 Tryz.results8 rfl ?_
  intro wb St0
  repeat' first
    | refine en_n ?_
    | refine awp_seq ?_
    | refine awp_region ?_
    | refine alex_nil ?_
    | refine w0 ?_
    | (apply aLit0 (hd := rfl) (hro := rfl); exact ety_nodes; exact es_nodes; exact zs_node; exact rfl)
    | (apply aApp (hd := rfl) (hro := rfl); exact rfl; exact rfl; (first | exact Co_dd rfl | exact Co_bb rfl rfl rfl | exact Co_nn rfl); (first | exact rfl | (simp; done)); exact rfl; exact (by first | with_reducible exact ety_nodes | with_reducible exact ety_ints | with_reducible exact ety_nodess); exact (by first | with_reducible exact es_nodes | with_reducible exact es_ints | with_reducible exact es_nodess); exact (by first | with_reducible exact zl_node | with_reducible exact zl_int | with_reducible exact zl_nodes); exact (by first | with_reducible exact by_nodes | with_reducible exact by_ints | with_reducible exact by_nodess); (first | exact sz_map (fun _ => rfl) | exact sz_lit rfl))
    | apply ay (hd := rfl)
    | (apply Y_move_d; exact rfl)
    | (apply Y_assign_nil; exact rfl)
    | (apply Y_assign_buf; exact rfl)
    | refine awp_ret ?_
    | refine rpost_ret ?_
  · simp only [List.length_map]; omega
  · refine res1b rfl rfl ?_ ?_
    · simp
    · rfl

/-! ### a node's tree -/
def subF (L : List Nd) (a : Int) : List Nd := if endF L a < 0 then [] else (L.take (endF L a).toNat).drop a.toNat
theorem sub_len (L : List Nd) (a : Int) : (subF L a).length ≤ L.length := by
  unfold subF; split
  · exact Nat.zero_le _
  · rw [List.length_drop, List.length_take]; omega
def subE (L : List Nd) (a : Int) : Int := if endF L a < 0 then 20 else 0

theorem copy_all {α : Type} {ys : List α} {n : Nat} {z : α} (h : ys.length = n) : ys.take (List.replicate n z).length ++ (List.replicate n z).drop ys.length = ys := by
  subst h; simp

end Go.Proofs.YtamhkcnpocdfcaaGreatDoor
/- Nodes: a node with kids. -/
namespace Go.Proofs.YtamhkcnpocdfcaaGreatDoor
open Go.Sx Go.RowKit
attribute [local irreducible] Ylds astep alex alexE alexD awp PCall FCall RCall MCall QCall athen ablock ajump rpost fpost

def makeF (n : Nd) (KK : List (List Nd)) : List Nd := { n with kids := KK.length } :: KK.flatten

def mkC (n : Nd) (KK : List (List Nd)) (i : Nat) : List Nd := { n with kids := KK.length } :: (KK.take i).flatten
theorem mkC_succ {n : Nd} {KK : List (List Nd)} {i : Nat} {v : List Nd} (hv : KK[i]? = some v) : (mkC n KK (i + 1)).map Nd.av = (mkC n KK i).map Nd.av ++ v.map Nd.av := by
  simp [mkC, List.take_add_one, hv]
theorem mkC_len (n : Nd) (KK : List (List Nd)) (i : Nat) : (mkC n KK i).length ≤ KK.flatten.length + 1 := by
  have : KK.flatten = (KK.take i).flatten ++ (KK.drop i).flatten := by rw [← List.flatten_append, List.take_append_drop]
  rw [this]; simp only [mkC, List.length_cons, List.length_append]; omega

theorem rMake_ok (n : Nd) (KK : List (List Nd)) (h1 : KK.length ≤ 2000000) (h2 : KK.flatten.length ≤ 2000000) : PCall Tryz.prog 45 [n.av, nodess KK] (nodes (makeF n KK)) := by
  refine pcall_of Tryz.func45 rfl Tryz.ntmps45 Tryz.results45 rfl ?_
  intro wb St0
  repeat' first
    | refine en_n ?_
    | refine awp_seq ?_
    | refine awp_region ?_
    | refine alex_nil ?_
    | refine w0 ?_
    | (apply aLit1 (hd := rfl) (hro := rfl); exact ety_nodes; exact es_nodes; exact zs_node; exact rfl; exact rfl; exact CoL_d rfl CoL_nil; exact rfl)
    | (apply Y_build4; exact rfl; exact rfl; exact rfl; exact rfl; exact bt_node4 _ _ _ _; exact rfl)
    | (apply aBox (hd := rfl) (hro := rfl); exact rfl; exact rfl)
    | apply ay (hd := rfl)
    | (apply Y_move_d; exact rfl)
    | (apply Y_assign_d; exact rfl)
    | (apply Y_len_m; exact rfl; exact (by first | with_reducible exact et_nodes | with_reducible exact et_ints | with_reducible exact et_nodess))
    | (apply Y_assign_nil; exact rfl)
    | (apply Y_assign_buf; exact rfl)
    | (apply Y_field_p; exact rfl; exact (by first | with_reducible exact fn_0 | with_reducible exact fn_1 | with_reducible exact fn_2 | with_reducible exact fn_3))
    | (apply Y_load_p; exact rfl; exact (by first | with_reducible exact tcn_int | with_reducible exact tc_nodes | with_reducible exact tc_node | with_reducible exact tc_ints | with_reducible exact tcn_kind | with_reducible exact tcn_i64 | with_reducible exact tcn_str | with_reducible exact tcn_bool); exact rfl; exact rfl)
    | refine awp_block ?_
  · refine awp_loopF (α := Nat) (fun i => i ≤ KK.length) (fun i => [(1, .d (nodess KK)), (5, .buf 1 ((mkC n KK i).map Nd.av).length), (6, .d (i64 (i : Int)))])
      (fun i => [.box [.d (.val (.int .i64 n.kind)), .d (.val (.string ⟨n.text.toArray⟩)), .d (.val (.int .i64 n.num)), .d (.val (.int .i64 n.kids))], .buf false 41 4 ((mkC n KK i).map Nd.av)]) (fun i => KK.length - i) 0 (Nat.zero_le _)
      (Fits_mk (Le_cons rfl (Le_buf rfl rfl (Le_cons rfl Le_nil))) (Pre_cons rfl rfl (Pre_cons rfl rfl Pre_nil)) rfl rfl) ?_
    intro i hi
    repeat' first
      | refine en_n ?_
      | refine awp_seq ?_
      | refine awp_region ?_
      | refine alex_nil ?_
      | refine w0 ?_
      | (apply aI (hd := rfl); (first | exact Co_dd rfl | exact Co_bb rfl rfl rfl | exact Co_nn rfl); exact rfl; exact (by first | with_reducible exact es_nodes | with_reducible exact es_ints | with_reducible exact es_nodess); exact fun _ => rfl; rotate_left; intro v hv; rotate_right)
      | (apply aApp (hd := rfl) (hro := rfl); exact rfl; exact rfl; (first | exact Co_dd rfl | exact Co_bb rfl rfl rfl | exact Co_nn rfl); (first | exact rfl | (simp; done)); exact rfl; exact (by first | with_reducible exact ety_nodes | with_reducible exact ety_ints | with_reducible exact ety_nodess); exact (by first | with_reducible exact es_nodes | with_reducible exact es_ints | with_reducible exact es_nodess); exact (by first | with_reducible exact zl_node | with_reducible exact zl_int | with_reducible exact zl_nodes); exact (by first | with_reducible exact by_nodes | with_reducible exact by_ints | with_reducible exact by_nodess); (first | exact sz_map (fun _ => rfl) | exact sz_lit rfl))
      | apply ay (hd := rfl)
      | (apply Y_move_d; exact rfl)
      | (apply Y_assign_d; exact rfl)
      | (apply Y_load_r1; exact rfl; exact (by first | with_reducible exact tcn_int | with_reducible exact tc_nodes | with_reducible exact tc_node | with_reducible exact tc_ints | with_reducible exact tcn_kind | with_reducible exact tcn_i64 | with_reducible exact tcn_str | with_reducible exact tcn_bool))
      | (apply Y_len_m; exact rfl; exact (by first | with_reducible exact et_nodes | with_reducible exact et_ints | with_reducible exact et_nodess))
      | (apply Y_lss; exact rfl; exact rfl)
      | (apply Y_add; exact rfl; exact rfl)
      | (apply Y_move_buf; exact rfl)
      | (apply Y_assign_buf; exact rfl)
      | (apply awp_condD; exact rfl; (intro hb); rotate_left; (intro hb); rotate_right)
      | refine awp_block ?_
      | refine awp_skip ?_
      | refine awp_ret ?_
      | refine awp_exit ?_
      | refine en_e ?_
      | refine eb_n ?_
      | refine eb_e ?_
      | refine rpost_ret ?_
      | (apply res1b; exact rfl; exact rfl; (first | exact rfl | (simp; done)))
    · omega
    · have h3 := mkC_len n KK (i + 1)
      rw [← List.length_map (f := Nd.av), mkC_succ (i := i) hv, List.length_append] at h3
      omega
    · omega
    · have hl : i < KK.length := by omega
      refine ⟨i + 1, by omega, by omega, Fits_mk (Le_cons rfl (Le_buf rfl ?_ (Le_cons rfl Le_nil))) (Pre_cons rfl rfl (Pre_buf rfl rfl (mkC_succ (i := i) hv) Pre_nil)) rfl rfl⟩
      rw [mkC_succ (i := i) hv, List.length_append]
    · rw [makeF, show i = KK.length by omega, mkC, List.take_length]; rfl
end Go.Proofs.YtamhkcnpocdfcaaGreatDoor
/- Nodes, in plain words: how many nodes o trees take; a node's kids, and where their trees begin. -/
namespace Go.Proofs.YtamhkcnpocdfcaaGreatDoor

/-! ### how many nodes o trees take -/
def cns : List Nd → Nat → Option Nat
  | _, 0 => some 0
  | [], _ + 1 => none
  | x :: r, o + 1 => if x.kids < 0 then none else (cns r (o + x.kids.toNat)).map (· + 1)

theorem cns_zero (l : List Nd) : cns l 0 = some 0 := by cases l <;> rfl
theorem cns_cons (x : Nd) (r : List Nd) (o : Nat) : cns (x :: r) (o + 1) = if x.kids < 0 then none else (cns r (o + x.kids.toNat)).map (· + 1) := rfl

theorem cns_le : ∀ {l : List Nd} {o k : Nat}, cns l o = some k → k ≤ l.length
  | l, 0, k, h => by rw [cns_zero] at h; injection h with h; omega
  | [], o + 1, k, h => by cases h
  | x :: r, o + 1, k, h => by
    rw [cns_cons] at h
    split at h
    · cases h
    · cases hc : cns r (o + x.kids.toNat) with
      | none => rw [hc] at h; cases h
      | some j => rw [hc] at h; have := cns_le hc; simp at h; simp; omega

/-- the open trees are at most the nodes -/
theorem cns_open : ∀ {l : List Nd} {o k : Nat}, cns l o = some k → o ≤ k
  | l, 0, k, h => by omega
  | [], o + 1, k, h => by cases h
  | x :: r, o + 1, k, h => by
    rw [cns_cons] at h
    split at h
    · cases h
    · cases hc : cns r (o + x.kids.toNat) with
      | none => rw [hc] at h; cases h
      | some j => rw [hc] at h; have := cns_open hc; simp at h; omega

theorem cns_append : ∀ {l : List Nd} {o k : Nat} (m : List Nd), cns l o = some k → cns (l ++ m) o = some k
  | l, 0, k, m, h => by rw [cns_zero] at h ⊢; exact h
  | [], o + 1, k, m, h => by cases h
  | x :: r, o + 1, k, m, h => by
    rw [List.cons_append, cns_cons] at *
    split at h
    · cases h
    · rename_i h0
      rw [if_neg h0]
      cases hc : cns r (o + x.kids.toNat) with
      | none => rw [hc] at h; cases h
      | some j => rw [hc] at h; rw [cns_append m hc]; exact h

theorem cns_take : ∀ {l : List Nd} {o k : Nat}, cns l o = some k → cns (l.take k) o = some k
  | l, 0, k, h => by rw [cns_zero] at h ⊢; exact h
  | [], o + 1, k, h => by cases h
  | x :: r, o + 1, k, h => by
    rw [cns_cons] at h
    split at h
    · cases h
    · rename_i h0
      cases hc : cns r (o + x.kids.toNat) with
      | none => rw [hc] at h; cases h
      | some j =>
        rw [hc] at h; simp at h; subst h
        rw [List.take_succ_cons, cns_cons, if_neg h0, cns_take hc]; rfl

theorem cns_add : ∀ (l : List Nd) (a b : Nat), cns l (a + b) = (cns l a).bind fun k => (cns (l.drop k) b).map (· + k)
  | l, 0, b => by rw [cns_zero]; simp
  | [], a + 1, b => by rw [show a + 1 + b = a + b + 1 by omega]; rfl
  | x :: r, a + 1, b => by
    rw [show a + 1 + b = a + b + 1 by omega, cns_cons, cns_cons]
    split
    · rfl
    · rw [show a + b + x.kids.toNat = a + x.kids.toNat + b by omega, cns_add r (a + x.kids.toNat) b]
      cases cns r (a + x.kids.toNat) with
      | none => rfl
      | some j =>
        simp only [Option.bind_some, Option.map_some, List.drop_succ_cons, Option.map_map]
        congr 1

theorem endGo_cns (n : Nat) : ∀ (l : List Nd) (o : Nat) (a : Int), l.length ≤ n → endGo n l ((o : Int) + 1) a = match cns l (o + 1) with
    | some k => a + k
    | none => -1
  | [], o, a, _ => rfl
  | x :: r, o, a, hn => by
    simp only [List.length_cons] at hn
    rw [cns_cons]
    unfold endGo
    by_cases h0 : x.kids < 0
    · rw [if_pos (.inl h0), if_pos h0]
    · rw [if_neg h0]
      by_cases h1 : x.kids > n
      · rw [if_pos (.inr h1)]
        cases hc : cns r (o + x.kids.toNat) with
        | none => rfl
        | some j => have := cns_open hc; have := cns_le hc; omega
      · rw [if_neg (by omega)]
        by_cases h2 : (o : Int) + 1 + (x.kids - 1) > 0
        · rw [if_pos h2]
          obtain ⟨q, hq⟩ : ∃ q : Nat, o + x.kids.toNat = q + 1 := ⟨o + x.kids.toNat - 1, by omega⟩
          rw [hq, show (o : Int) + 1 + (x.kids - 1) = (q : Int) + 1 by omega, endGo_cns n r q (a + 1) (by omega)]
          cases cns r (q + 1) with
          | none => rfl
          | some k => show a + 1 + (k : Int) = a + ((k + 1 : Nat) : Int); omega
        · rw [if_neg h2, show o + x.kids.toNat = 0 by omega, cns_zero]; simp

theorem endF_cns (L : List Nd) (a : Nat) : endF L (a : Int) = match cns (L.drop a) 1 with
    | some k => (a : Int) + k
    | none => -1 := by
  rw [endF, if_neg (by omega), Int.toNat_natCast]
  have := endGo_cns L.length (L.drop a) 0 a (by rw [List.length_drop]; omega)
  simpa using this

theorem whole_cns (L : List Nd) : wholeF L = true ↔ cns L 1 = some L.length := by
  have h := endF_cns L 0
  simp only [List.drop_zero] at h
  rw [wholeF, show (0 : Int) = ((0 : Nat) : Int) from rfl, h]
  cases hc : cns L 1 with
  | none => simp
  | some k =>
    have := cns_open hc
    have := cns_le hc
    simp; omega

theorem endF_some {L : List Nd} {a : Int} (h : ¬ endF L a < 0) : ∃ (n k : Nat), a = n ∧ cns (L.drop n) 1 = some k ∧ endF L a = n + k := by
  by_cases h0 : a < 0
  · rw [endF, if_pos h0] at h; omega
  · obtain ⟨n, rfl⟩ := Int.eq_ofNat_of_zero_le (show 0 ≤ a by omega)
    have h1 := endF_cns L n
    cases hc : cns (L.drop n) 1 with
    | none => rw [hc] at h1; simp only at h1; omega
    | some k => rw [hc] at h1; exact ⟨n, k, rfl, hc, h1⟩

theorem endF_of {L : List Nd} {n k : Nat} (h : cns (L.drop n) 1 = some k) : endF L (n : Int) = n + k := by rw [endF_cns, h]

/-! ### a node's kids, and their trees -/
def starts : Int → List (List Nd) → List Int
  | _, [] => []
  | b, K :: KK => b :: starts (b + K.length) KK

theorem split_cns : ∀ (j : Nat) {l : List Nd} {k : Nat}, cns l j = some k → ∃ KK : List (List Nd), KK.length = j ∧ KK.flatten = l.take k ∧ ∀ K ∈ KK, cns K 1 = some K.length
  | 0, l, k, h => by rw [cns_zero] at h; injection h with h; subst h; exact ⟨[], rfl, by simp, by simp⟩
  | j + 1, l, k, h => by
    rw [show j + 1 = 1 + j by omega, cns_add] at h
    cases h1 : cns l 1 with
    | none => rw [h1] at h; cases h
    | some k1 =>
      rw [h1] at h; simp only [Option.bind_some] at h
      cases h2 : cns (l.drop k1) j with
      | none => rw [h2] at h; cases h
      | some k2 =>
        rw [h2] at h; simp only [Option.map_some, Option.some.injEq] at h; subst h
        obtain ⟨KK, e1, e2, e3⟩ := split_cns j h2
        have hl := cns_le h1
        refine ⟨l.take k1 :: KK, by simp [e1], ?_, ?_⟩
        · rw [List.flatten_cons, e2, Nat.add_comm k2 k1, List.take_add]
        · intro K hK
          rcases List.mem_cons.1 hK with rfl | hK
          · rw [cns_take h1, List.length_take]; congr 1; omega
          · exact e3 K hK

theorem forest_cns : ∀ (KK : List (List Nd)), (∀ K ∈ KK, cns K 1 = some K.length) → cns KK.flatten KK.length = some KK.flatten.length
  | [], _ => by rw [List.length_nil, cns_zero]; rfl
  | K :: KK, h => by
    have h1 := h K (by simp)
    have h2 := forest_cns KK (fun K' hK => h K' (by simp [hK]))
    rw [List.length_cons, Nat.add_comm, cns_add, List.flatten_cons, cns_append _ h1]
    simp only [Option.bind_some, List.drop_left, h2, Option.map_some, List.length_append, Option.some.injEq]; omega

/-- the trees of a row, one behind another: where each begins -/
theorem seqE_at {L : List Nd} {n : Nat} {KK : List (List Nd)} {R : List Nd} (hd : L.drop n = KK.flatten ++ R) (hw : ∀ K ∈ KK, cns K 1 = some K.length) : ∀ i, i ≤ KK.length → seqE L (n : Int) i = (n : Int) + ((KK.take i).flatten.length : Nat)
  | 0, _ => by simp [seqE]
  | i + 1, hi => by
    have ih := seqE_at hd hw i (by omega)
    rw [seqE_succ (by omega), ih]
    have hK : KK[i]? = some KK[i] := List.getElem?_eq_getElem (by omega)
    have h1 := hw KK[i] (List.getElem_mem _)
    have hdr : L.drop (n + (KK.take i).flatten.length) = KK[i] ++ ((KK.drop (i + 1)).flatten ++ R) := by
      rw [← List.drop_drop, hd]
      conv => lhs; rw [← List.take_append_drop i KK, List.flatten_append, List.append_assoc]
      rw [List.drop_append_of_le_length (by simp), List.drop_of_length_le (by simp), List.nil_append, List.drop_eq_getElem_cons (by omega), List.flatten_cons, List.append_assoc]
    have h2 := endF_of (L := L) (n := n + (KK.take i).flatten.length) (by rw [hdr]; exact cns_append _ h1)
    rw [show (n : Int) + ((KK.take i).flatten.length : Nat) = ((n + (KK.take i).flatten.length : Nat) : Int) by omega, h2]
    have h9 : (KK.take (i + 1)).flatten.length = (KK.take i).flatten.length + KK[i].length := by
      rw [List.take_add_one, hK, List.flatten_append, List.length_append]; simp
    omega

theorem starts_eq : ∀ (KK : List (List Nd)) (b : Int), starts b KK = (List.range KK.length).map (fun i => b + ((KK.take i).flatten.length : Nat))
  | [], b => rfl
  | K :: KK, b => by
    rw [List.length_cons, List.range_succ_eq_map, List.map_cons, List.map_map, starts, starts_eq KK]
    simp [Function.comp_def]
    intro i _; omega

theorem kid_sub {L : List Nd} {n : Nat} {KK : List (List Nd)} {R : List Nd} (hd : L.drop n = KK.flatten ++ R) (hw : ∀ K ∈ KK, cns K 1 = some K.length) {i : Nat} {K : List Nd} (hK : KK[i]? = some K) : endF L ((n : Int) + ((KK.take i).flatten.length : Nat)) = (n : Int) + ((KK.take i).flatten.length : Nat) + (K.length : Nat) ∧ L.drop (n + (KK.take i).flatten.length) = K ++ ((KK.drop (i + 1)).flatten ++ R) := by
  obtain ⟨hi, rfl⟩ := List.getElem?_eq_some_iff.1 hK
  have h1 := hw KK[i] (List.getElem_mem _)
  have hdr : L.drop (n + (KK.take i).flatten.length) = KK[i] ++ ((KK.drop (i + 1)).flatten ++ R) := by
    rw [← List.drop_drop, hd]
    conv => lhs; rw [← List.take_append_drop i KK, List.flatten_append, List.append_assoc]
    rw [List.drop_append_of_le_length (by simp), List.drop_of_length_le (by simp), List.nil_append, List.drop_eq_getElem_cons (by omega), List.flatten_cons, List.append_assoc]
  have h2 : cns (L.drop (n + (KK.take i).flatten.length)) 1 = some KK[i].length := by rw [hdr]; exact cns_append _ h1
  have h4 := endF_of h2
  rw [show (n : Int) + ((KK.take i).flatten.length : Nat) = ((n + (KK.take i).flatten.length : Nat) : Int) by omega]
  exact ⟨h4, hdr⟩

structure Node (L : List Nd) (n : Nat) (x : Nd) (KK : List (List Nd)) (R : List Nd) : Prop where
  drop : L.drop n = x :: (KK.flatten ++ R)
  kids : x.kids = KK.length
  whole : ∀ K ∈ KK, cns K 1 = some K.length

theorem Node.cnsEq {L : List Nd} {n : Nat} {x : Nd} {KK : List (List Nd)} {R : List Nd} (h : Node L n x KK R) : cns (L.drop n) 1 = some (KK.flatten.length + 1) := by
  rw [h.drop, cns_cons, if_neg (by have := h.kids; omega), show 0 + x.kids.toNat = KK.length by have := h.kids; omega, cns_append _ (forest_cns KK h.whole)]; rfl
theorem Node.at {L : List Nd} {n : Nat} {x : Nd} {KK : List (List Nd)} {R : List Nd} (h : Node L n x KK R) : L[n]? = some x := by
  have := congrArg (·[0]?) h.drop
  simpa using this
theorem Node.next {L : List Nd} {n : Nat} {x : Nd} {KK : List (List Nd)} {R : List Nd} (h : Node L n x KK R) : L.drop (n + 1) = KK.flatten ++ R := by
  rw [← List.drop_drop, h.drop]; rfl
theorem Node.kidsEq {L : List Nd} {n : Nat} {x : Nd} {KK : List (List Nd)} {R : List Nd} (h : Node L n x KK R) : kidsF L (n : Int) = starts ((n : Int) + 1) KK := by
  have h1 := endF_of h.cnsEq
  rw [kidsF, if_neg (by omega), starts_eq, show kidsN L (n : Int) = KK.length by rw [kidsN, Int.toNat_natCast, h.at]; have := h.kids; simp only; omega]
  refine List.map_congr_left fun i hi => ?_
  rw [List.mem_range] at hi
  have := seqE_at h.next h.whole i (by omega)
  rw [show ((n + 1 : Nat) : Int) = (n : Int) + 1 by omega] at this
  exact this
theorem node_of {L : List Nd} {n k : Nat} (h : cns (L.drop n) 1 = some k) : ∃ x KK R, Node L n x KK R ∧ k = KK.flatten.length + 1 := by
  cases hl : L.drop n with
  | nil => rw [hl] at h; cases h
  | cons x r =>
    rw [hl, cns_cons] at h
    split at h
    · cases h
    · rename_i h0
      cases hc : cns r (0 + x.kids.toNat) with
      | none => rw [hc] at h; cases h
      | some j =>
        rw [hc] at h; simp at h; subst h
        obtain ⟨KK, e1, e2, e3⟩ := split_cns _ hc
        have := cns_le hc
        refine ⟨x, KK, r.drop j, ⟨by rw [e2, List.take_append_drop, hl], by rw [e1]; omega, e3⟩, ?_⟩
        rw [e2, List.length_take]; omega

theorem make_node (n : Nd) {KK : List (List Nd)} (hw : ∀ K ∈ KK, wholeF K = true) : Node (makeF n KK) 0 { n with kids := KK.length } KK [] :=
  ⟨by rw [List.drop_zero, makeF, List.append_nil], rfl, fun K hK => (whole_cns K).1 (hw K hK)⟩

theorem starts_len : ∀ (KK : List (List Nd)) (b : Int), (starts b KK).length = KK.length
  | [], _ => rfl
  | _ :: KK, b => by rw [starts, List.length_cons, starts_len KK, List.length_cons]
theorem starts_get {KK : List (List Nd)} {b : Int} {i : Nat} (hi : i < KK.length) : (starts b KK)[i]? = some (b + ((KK.take i).flatten.length : Nat)) := by
  rw [starts_eq, List.getElem?_map, List.getElem?_range hi]; rfl
end Go.Proofs.YtamhkcnpocdfcaaGreatDoor
/- Contracts of functions of Go's library, laid at this dump by the kit's tool (lay-shelf, lay-plain): the facts of the dump's own, and one application each. -/
namespace Go.Proofs
open Go.Shelf
def Tryz.lays137_ren : Go.Shelf.Ren := ⟨fun | 137 => 99 | 217 => 111 | 266 => 117 | n => n, fun | 9 => 9 | 5 => 5 | 3 => 3 | n => n, fun | n => n⟩
theorem Tryz.lays137 : Go.Proofs.Lays.n137 Tryz.prog Tryz.lays137_ren := {
  mixed := by kernel_rfl
  f137 := Tryz.func99.trans (congrArg some (by kernel_rfl))
  f217 := Tryz.func111.trans (congrArg some (by kernel_rfl))
  f266 := Tryz.func117.trans (congrArg some (by kernel_rfl))
  t3 := Tryz.underlying3
  a3 := Tryz.isAgg3
  z3 := Tryz.sizeOf3
  v3 := Tryz.zeroValue3
  t5 := Tryz.underlying5
  a5 := Tryz.isAgg5
  z5 := Tryz.sizeOf5
  v5 := Tryz.zeroValue5
  t9 := Tryz.underlying9
  a9 := Tryz.isAgg9
  z9 := Tryz.sizeOf9
  v9 := Tryz.zeroValue9 }
open Go.RowKit in
theorem Tryz.strings_IndexByte (s : ByteArray) (c : Int) (w : World) :
    Calls Tryz.prog 99 #[.string s, .int .u8 c] w fun e w' => e = .returned (.int .i64 (Lib.indexByte s.data.toList c.toNat.toUInt8)) ∧ w' = w := Any.strings_IndexByte Tryz.lays137 s c w
def Tryz.laysM173_ren : Go.Shelf.Ren := ⟨fun | 173 => 51 | 246 => 70 | 283 => 92 | 284 => 93 | 285 => 94 | 286 => 95 | 129 => 90 | 317 => 105 | 318 => 106 | 319 => 107 | 320 => 108 | 337 => 113 | 338 => 114 | n => n, fun | 2 => 2 | 3 => 3 | 9 => 9 | 4 => 4 | 171 => 111 | 0 => 0 | 53 => 96 | 37 => 86 | 5 => 5 | 173 => 113 | 212 => 125 | 51 => 109 | 20 => 20 | 213 => 126 | 46 => 89 | 232 => 135 | 233 => 136 | n => n, fun | 17 => 0 | 18 => 2 | 19 => 3 | n => n⟩
theorem Tryz.laysM173 : Go.Proofs.LaysM.n173 Tryz.prog Tryz.laysM173_ren := {
  mixed := by kernel_rfl
  f129 := Tryz.func90.trans (congrArg some (by kernel_rfl))
  f173 := Tryz.func51.trans (congrArg some (by kernel_rfl))
  f246 := Tryz.func70.trans (congrArg some (by kernel_rfl))
  f283 := Tryz.func92.trans (congrArg some (by kernel_rfl))
  f284 := Tryz.func93.trans (congrArg some (by kernel_rfl))
  f285 := Tryz.func94.trans (congrArg some (by kernel_rfl))
  f286 := Tryz.func95.trans (congrArg some (by kernel_rfl))
  f317 := Tryz.func105.trans (congrArg some (by kernel_rfl))
  f318 := Tryz.func106.trans (congrArg some (by kernel_rfl))
  f319 := Tryz.func107.trans (congrArg some (by kernel_rfl))
  f320 := Tryz.func108.trans (congrArg some (by kernel_rfl))
  f337 := Tryz.func113.trans (congrArg some (by kernel_rfl))
  f338 := Tryz.func114.trans (congrArg some (by kernel_rfl))
  t0 := Tryz.underlying0
  a0 := Tryz.isAgg0
  z0 := Tryz.sizeOf0
  v0 := Tryz.zeroValue0
  t2 := Tryz.underlying2
  a2 := Tryz.isAgg2
  z2 := Tryz.sizeOf2
  v2 := Tryz.zeroValue2
  t3 := Tryz.underlying3
  a3 := Tryz.isAgg3
  z3 := Tryz.sizeOf3
  v3 := Tryz.zeroValue3
  t4 := Tryz.underlying4
  a4 := Tryz.isAgg4
  z4 := Tryz.sizeOf4
  v4 := Tryz.zeroValue4
  t5 := Tryz.underlying5
  a5 := Tryz.isAgg5
  z5 := Tryz.sizeOf5
  v5 := Tryz.zeroValue5
  t9 := Tryz.underlying9
  a9 := Tryz.isAgg9
  z9 := Tryz.sizeOf9
  v9 := Tryz.zeroValue9
  t20 := Tryz.underlying20
  a20 := Tryz.isAgg20
  z20 := Tryz.sizeOf20
  v20 := Tryz.zeroValue20
  t37 := Tryz.underlying86
  a37 := Tryz.isAgg86
  z37 := Tryz.sizeOf86
  v37 := Tryz.zeroValue86
  t46 := Tryz.underlying89
  a46 := Tryz.isAgg89
  z46 := Tryz.sizeOf89
  v46 := Tryz.zeroValue89
  t51 := Tryz.underlying109
  a51 := Tryz.isAgg109
  z51 := Tryz.sizeOf109
  v51 := Tryz.zeroValue109
  t53 := Tryz.underlying96
  a53 := Tryz.isAgg96
  z53 := Tryz.sizeOf96
  v53 := Tryz.zeroValue96
  t171 := Tryz.underlying111
  a171 := Tryz.isAgg111
  z171 := Tryz.sizeOf111
  v171 := Tryz.zeroValue111
  t173 := Tryz.underlying113
  a173 := Tryz.isAgg113
  z173 := Tryz.sizeOf113
  v173 := Tryz.zeroValue113
  t212 := Tryz.underlying125
  a212 := Tryz.isAgg125
  z212 := Tryz.sizeOf125
  v212 := Tryz.zeroValue125
  t213 := Tryz.underlying126
  a213 := Tryz.isAgg126
  z213 := Tryz.sizeOf126
  t232 := Tryz.underlying135
  a232 := Tryz.isAgg135
  z232 := Tryz.sizeOf135
  v232 := Tryz.zeroValue135
  t233 := Tryz.underlying136
  a233 := Tryz.isAgg136
  z233 := Tryz.sizeOf136
  v233 := Tryz.zeroValue136
  g17 := by kernel_rfl
  g18 := by kernel_rfl
  g19 := by kernel_rfl
  i0 := by kernel_rfl
  i2 := by kernel_rfl
  i3 := by kernel_rfl
  i4 := by kernel_rfl
  i5 := by kernel_rfl
  i9 := by kernel_rfl
  i20 := by kernel_rfl
  i37 := by kernel_rfl
  i46 := by kernel_rfl
  i51 := by kernel_rfl
  i53 := by kernel_rfl
  i171 := by kernel_rfl
  i173 := by kernel_rfl
  i212 := by kernel_rfl
  i232 := by kernel_rfl
  i233 := by kernel_rfl
  m17 := by kernel_rfl
  m18 := by kernel_rfl
  m19 := by kernel_rfl }
open Go.RowKit Go.Sort Go.Lib in
theorem Tryz.strconv_FormatInt_10 (n : Int) (h0 : -9223372036854775808 ≤ n) (h1 : n ≤ 9223372036854775807) (w : World) (htab : Lib.TabIs Tryz.prog w "internal/strconv.uint64pow10" .u64 Lib.pow10Tab) :
    Calls Tryz.prog 51 #[.int .i64 n, .int .i64 10] w fun e w' => e = .returned (.string ⟨(Lib.itoa n).toArray⟩) ∧ ∃ k os, w' = grow (w.drewN k) os := Any.strconv_FormatInt_10 Tryz.laysM173 n h0 h1 w htab
def Tryz.laysM157_ren : Go.Shelf.Ren := ⟨fun | 157 => 110 | 229 => 115 | 199 => 116 | 261 => 118 | 311 => 119 | 312 => 120 | n => n, fun | 9 => 9 | 31 => 93 | 3 => 3 | 5 => 5 | 4 => 4 | 119 => 132 | 0 => 0 | 40 => 134 | 152 => 137 | 21 => 21 | 154 => 139 | 51 => 109 | 141 => 141 | 196 => 145 | 193 => 142 | 198 => 148 | 49 => 146 | 194 => 143 | 201 => 151 | 226 => 153 | 46 => 89 | 227 => 154 | n => n, fun | 0 => 1 | 6 => 4 | n => n⟩
theorem Tryz.laysM157 : Go.Proofs.LaysM.n157 Tryz.prog Tryz.laysM157_ren := {
  mixed := by kernel_rfl
  f157 := Tryz.func110.trans (congrArg some (by kernel_rfl))
  f199 := Tryz.func116.trans (congrArg some (by kernel_rfl))
  f229 := Tryz.func115.trans (congrArg some (by kernel_rfl))
  f261 := Tryz.func118.trans (congrArg some (by kernel_rfl))
  f311 := Tryz.func119.trans (congrArg some (by kernel_rfl))
  f312 := Tryz.func120.trans (congrArg some (by kernel_rfl))
  t0 := Tryz.underlying0
  a0 := Tryz.isAgg0
  z0 := Tryz.sizeOf0
  v0 := Tryz.zeroValue0
  t3 := Tryz.underlying3
  a3 := Tryz.isAgg3
  z3 := Tryz.sizeOf3
  v3 := Tryz.zeroValue3
  t4 := Tryz.underlying4
  a4 := Tryz.isAgg4
  z4 := Tryz.sizeOf4
  v4 := Tryz.zeroValue4
  t5 := Tryz.underlying5
  a5 := Tryz.isAgg5
  z5 := Tryz.sizeOf5
  v5 := Tryz.zeroValue5
  t9 := Tryz.underlying9
  a9 := Tryz.isAgg9
  z9 := Tryz.sizeOf9
  v9 := Tryz.zeroValue9
  t21 := Tryz.underlying21
  a21 := Tryz.isAgg21
  z21 := Tryz.sizeOf21
  v21 := Tryz.zeroValue21
  t31 := Tryz.underlying93
  a31 := Tryz.isAgg93
  z31 := Tryz.sizeOf93
  v31 := Tryz.zeroValue93
  t40 := Tryz.underlying134
  a40 := Tryz.isAgg134
  z40 := Tryz.sizeOf134
  v40 := Tryz.zeroValue134
  t46 := Tryz.underlying89
  a46 := Tryz.isAgg89
  z46 := Tryz.sizeOf89
  v46 := Tryz.zeroValue89
  t49 := Tryz.underlying146
  a49 := Tryz.isAgg146
  z49 := Tryz.sizeOf146
  v49 := Tryz.zeroValue146
  t51 := Tryz.underlying109
  a51 := Tryz.isAgg109
  z51 := Tryz.sizeOf109
  v51 := Tryz.zeroValue109
  t119 := Tryz.underlying132
  a119 := Tryz.isAgg132
  z119 := Tryz.sizeOf132
  t141 := Tryz.underlying141
  a141 := Tryz.isAgg141
  z141 := Tryz.sizeOf141
  v141 := Tryz.zeroValue141
  t152 := Tryz.underlying137
  a152 := Tryz.isAgg137
  z152 := Tryz.sizeOf137
  v152 := Tryz.zeroValue137
  t154 := Tryz.underlying139
  a154 := Tryz.isAgg139
  z154 := Tryz.sizeOf139
  v154 := Tryz.zeroValue139
  t193 := Tryz.underlying142
  a193 := Tryz.isAgg142
  z193 := Tryz.sizeOf142
  v193 := Tryz.zeroValue142
  t194 := Tryz.underlying143
  a194 := Tryz.isAgg143
  z194 := Tryz.sizeOf143
  v194 := Tryz.zeroValue143
  t196 := Tryz.underlying145
  a196 := Tryz.isAgg145
  z196 := Tryz.sizeOf145
  v196 := Tryz.zeroValue145
  t198 := Tryz.underlying148
  a198 := Tryz.isAgg148
  z198 := Tryz.sizeOf148
  v198 := Tryz.zeroValue148
  t201 := Tryz.underlying151
  a201 := Tryz.isAgg151
  z201 := Tryz.sizeOf151
  v201 := Tryz.zeroValue151
  t226 := Tryz.underlying153
  a226 := Tryz.isAgg153
  z226 := Tryz.sizeOf153
  v226 := Tryz.zeroValue153
  t227 := Tryz.underlying154
  a227 := Tryz.isAgg154
  z227 := Tryz.sizeOf154
  v227 := Tryz.zeroValue154
  g0 := by kernel_rfl
  g6 := by kernel_rfl
  i0 := by kernel_rfl
  i3 := by kernel_rfl
  i4 := by kernel_rfl
  i5 := by kernel_rfl
  i9 := by kernel_rfl
  i21 := by kernel_rfl
  i31 := by kernel_rfl
  i40 := by kernel_rfl
  i46 := by kernel_rfl
  i49 := by kernel_rfl
  i51 := by kernel_rfl
  i141 := by kernel_rfl
  i152 := by kernel_rfl
  i154 := by kernel_rfl
  i193 := by kernel_rfl
  i194 := by kernel_rfl
  i196 := by kernel_rfl
  i198 := by kernel_rfl
  i201 := by kernel_rfl
  i226 := by kernel_rfl
  i227 := by kernel_rfl
  m0 := by kernel_rfl
  m6 := by kernel_rfl }
open Go.RowKit Go.Lib in
theorem Tryz.strings_Fields_laid (s : ByteArray) (w : World) (hs : s.size < 4294967281) (hascii : ∀ (j : Nat) b, s.data.toList[j]? = some b → b.toNat < 128) (htab : Lib.TabIs Tryz.prog w "strings.asciiSpace" .u8 Lib.asciiSpaceTab) :
    Calls Tryz.prog 110 #[.string s] w fun e w' =>
      e = .returned (.slice (some ⟨w.heap.size, 0, none⟩) (Lib.fields s.data.toList).length (Lib.fields s.data.toList).length) ∧ w' = w.alloc (.cells ((Lib.fields s.data.toList).map fun l => Value.string ⟨l.toArray⟩).toArray 9) := Any.strings_Fields_laid Tryz.laysM157 s w hs hascii htab
end Go.Proofs
/- Numbers: facts on the program's types; contracts of three functions of the library; the plain functions. -/
namespace Go.Proofs.YtamhkcnpocdfcaaGreatDoor
open Go.Sx Go.RowKit

theorem es_u8s : elemSize Tryz.prog 86 = some 1 := by kernel_rfl
theorem et_u8s : (elemTy Tryz.prog 86).isSome = true := by kernel_rfl
theorem ety_u8s : elemTy Tryz.prog 86 = some 5 := by kernel_rfl
theorem tc_i64 : tyCells Tryz.prog 2 = some (false, 1) := by kernel_rfl
theorem zl_i64 : zeroLen Tryz.prog 2 = some 1 := by kernel_rfl
theorem zl_u8 : zeroLen Tryz.prog 5 = some 1 := by kernel_rfl
theorem by_u8s : bytesOf Tryz.prog 86 = some 1 := by kernel_rfl
theorem zs_i64 : (zeroOf Tryz.prog 2).isSome = true := by kernel_rfl
theorem zs_u8 : (zeroOf Tryz.prog 5).isSome = true := by kernel_rfl
theorem zo_i64 : zeroOf Tryz.prog 2 = some [.int .i64 0] := by kernel_rfl
theorem ui64 : Tryz.prog.underlying 2 = some (.int .i64) := by kernel_rfl
theorem uint : Tryz.prog.underlying 3 = some (.int .i64) := by kernel_rfl
theorem uu64 : Tryz.prog.underlying 96 = some (.int .u64) := by kernel_rfl
theorem uu8 : Tryz.prog.underlying 5 = some (.int .u8) := by kernel_rfl
theorem ui32 : Tryz.prog.underlying 21 = some (.int .i32) := by kernel_rfl
theorem ustr : Tryz.prog.underlying 9 = some .string := by kernel_rfl
theorem ubool : Tryz.prog.underlying 4 = some .bool := by kernel_rfl
theorem uu8s : Tryz.prog.underlying 86 = some (.slice 5) := by kernel_rfl
theorem si64 : (Tryz.prog.underlying 2).isSome = true := by kernel_rfl
theorem su64 : (Tryz.prog.underlying 96).isSome = true := by kernel_rfl
theorem su8 : (Tryz.prog.underlying 5).isSome = true := by kernel_rfl
theorem si32 : (Tryz.prog.underlying 21).isSome = true := by kernel_rfl

theorem hb_wWrap : hasBody Tryz.prog 79 = true := by kernel_rfl
theorem hb_rWrap : hasBody Tryz.prog 60 = true := by kernel_rfl
theorem hb_back : hasBody Tryz.prog 72 = true := by kernel_rfl
theorem hb_FormatInt : hasBody Tryz.prog 51 = true := by kernel_rfl
def ints (L : List Int) : D := .slice (L.map i64)

/-! ### numbers of the language -/
theorem wrap_u64 (n : Int) : IntKind.u64.wrap n = n % 18446744073709551616 := by simp [IntKind.wrap, IntKind.bits, IntKind.signed]
theorem wrap_i64 (n : Int) : IntKind.i64.wrap n = (n + 9223372036854775808) % 18446744073709551616 - 9223372036854775808 := by
  simp [IntKind.wrap, IntKind.bits, IntKind.signed]; split <;> omega
theorem wrap_u8 (n : Int) : IntKind.u8.wrap n = n % 256 := by simp [IntKind.wrap, IntKind.bits, IntKind.signed]
theorem wrap_i32 (n : Int) : IntKind.i32.wrap n = (n + 2147483648) % 4294967296 - 2147483648 := by
  simp [IntKind.wrap, IntKind.bits, IntKind.signed]; split <;> omega
/-- a number as the language has it -/
def W (n : Int) : Int := (n + 4611686018427387904) % 9223372036854775808 - 4611686018427387904
theorem W_bd (n : Int) : -4611686018427387904 ≤ W n ∧ W n ≤ 4611686018427387903 := by unfold W; omega
theorem W_id {n : Int} (h : -4611686018427387904 ≤ n ∧ n ≤ 4611686018427387903) : W n = n := by unfold W; omega
theorem W_W (n : Int) : W (W n) = W n := W_id (W_bd n)

/-! ### the library -/
theorem tup_ss {St : Stab} {w : World} (a b : Value) : RepD St w (.tuple #[a, b]) (.tup [.val a, .val b]) :=
  .tup [_, _] _ rfl fun j u d hu hd => by
    match j with
    | 0 => simp at hu hd; subst hu; subst hd; exact .val _
    | 1 => simp at hu hd; subst hu; subst hd; exact .val _
    | j + 2 => simp at hu

theorem FormatInt_ok (n : Int) (h0 : -9223372036854775808 ≤ n) (h1 : n ≤ 9223372036854775807) : PCall Tryz.prog 51 [i64 n, i64 10] (str (Lib.itoa n)) :=
  pcall_plain (us := [.int .i64 n, .int .i64 10]) (fun _ _ => .val _) fun _ w hgl => (Tryz.strconv_FormatInt_10 n h0 h1 w (by
    obtain ⟨_, _, ⟨e, t, h3⟩, _⟩ := hgl
    have key : ∀ (o : Option Nat), o = some 0 → (o.bind fun g => match w.heap[g]? with | some (.cells cs _ _) => some cs | _ => none) = some (Lib.pow10Tab.map fun z => Value.int .u64 z).toArray := by
      rintro _ rfl; simp only [Option.bind_some, h3]
    exact key _ (by kernel_rfl))).mono fun e w' ⟨he, k, os, hw⟩ => ⟨he, by
      subst hw
      exact ⟨rfl, rfl, rfl, by simp [Sort.grow, World.drewN], fun i hi => by simp [Sort.grow, World.drewN, Array.getElem?_append, hi]⟩⟩

end Go.Proofs.YtamhkcnpocdfcaaGreatDoor
/- The token statements: the plain functions. -/
namespace Go.Proofs.YtamhkcnpocdfcaaGreatDoor
open Go.Sx

/-- a token -/
structure Tk where
  kind : Int
  text : List UInt8
  num : Int
  pos : Int
deriving DecidableEq

def signL : List UInt8 := [33, 36, 37, 38, 42, 43, 45, 47, 58, 60, 61, 62, 63, 64, 94, 124]
def isSign (c : UInt8) : Bool := signL.contains c
def isSmall (c : UInt8) : Bool := decide (97 ≤ c.toNat ∧ c.toNat ≤ 122)
def isGreat (c : UInt8) : Bool := decide (65 ≤ c.toNat ∧ c.toNat ≤ 90)
def isDigit (c : UInt8) : Bool := decide (48 ≤ c.toNat ∧ c.toNat ≤ 57)
def isInner (c : UInt8) : Bool := isSmall c || isGreat c || isDigit c || c == 95 || c == 39
def kws : List (List UInt8) := [[108, 101, 116], [114, 101, 99], [105, 110], [102, 117, 110], [105, 102], [116, 104, 101, 110], [101, 108, 115, 101], [109, 97, 116, 99, 104], [119, 105, 116, 104], [101, 110, 100], [114, 97, 105, 115, 101], [116, 114, 121], [111, 112, 101, 110], [116, 121, 112, 101], [111, 102], [105, 110, 102, 105, 120, 108], [105, 110, 102, 105, 120, 114], [105, 110, 102, 105, 120], [45, 62], [61], [124], [40], [41], [95], [59, 59]]
def isKey (s : List UInt8) : Bool := kws.contains s
/-- how many bytes of a kind a text begins with -/
def spanF (p : UInt8 → Bool) : List UInt8 → Nat
  | [] => 0
  | c :: s => if p c then spanF p s + 1 else 0
def hexD (n : Nat) : UInt8 := if n < 10 then UInt8.ofNat (48 + n) else UInt8.ofNat (87 + n)
def hexV (c : UInt8) : Int := if 48 ≤ c.toNat ∧ c.toNat ≤ 57 then c.toNat - 48 else if 97 ≤ c.toNat ∧ c.toNat ≤ 102 then c.toNat - 87 else -1
def quoteC (c : UInt8) : List UInt8 := if c = 34 ∨ c = 92 then [92, c] else if c = 10 then [92, 110] else if c.toNat < 32 ∨ c.toNat > 126 then [92, 120, hexD (c.toNat / 16), hexD (c.toNat % 16)] else [c]
def quoteF (s : List UInt8) : List UInt8 := 34 :: (s.flatMap quoteC ++ [34])
/-- what stands behind an opening quote: the text, and what is left behind its end -/
def quotedG : List UInt8 → List UInt8 → Option (List UInt8 × List UInt8)
  | _, [] => none
  | b, c :: s =>
    if c = 34 then some (b, s)
    else if c.toNat < 32 ∨ c.toNat > 126 then none
    else if c ≠ 92 then quotedG (b ++ [c]) s
    else match s with
      | [] => none
      | d :: s => if d = 34 ∨ d = 92 then quotedG (b ++ [d]) s else if d = 110 then quotedG (b ++ [10]) s
        else if d = 120 then match s with
          | x :: y :: s => if hexV x < 0 ∨ hexV y < 0 then none else quotedG (b ++ [UInt8.ofNat (16 * (hexV x).toNat + (hexV y).toNat)]) s
          | _ => none
        else none
end Go.Proofs.YtamhkcnpocdfcaaGreatDoor
/- The token statements: facts on the program's types; the library's functions. -/
namespace Go.Proofs.YtamhkcnpocdfcaaGreatDoor
open Go.Sx Go.RowKit

theorem es_strs : elemSize Tryz.prog 93 = some 1 := by kernel_rfl
theorem et_strs : (elemTy Tryz.prog 93).isSome = true := by kernel_rfl
theorem ety_strs : elemTy Tryz.prog 93 = some 9 := by kernel_rfl
theorem fo_0 : fieldOff Tryz.prog 58 0 = some 0 := by kernel_rfl
theorem fo_1 : fieldOff Tryz.prog 58 1 = some 1 := by kernel_rfl
theorem fo_2 : fieldOff Tryz.prog 58 2 = some 2 := by kernel_rfl
theorem fo_3 : fieldOff Tryz.prog 58 3 = some 3 := by kernel_rfl
theorem tc_str : tyCells Tryz.prog 9 = some (false, 1) := by kernel_rfl
theorem tc_int : tyCells Tryz.prog 3 = some (false, 1) := by kernel_rfl
theorem tc_kind : tyCells Tryz.prog 56 = some (false, 1) := by kernel_rfl
theorem tc_tok : tyCells Tryz.prog 58 = some (true, 4) := by kernel_rfl
theorem tc_u8s : tyCells Tryz.prog 86 = some (false, 1) := by kernel_rfl
theorem tc_strs : tyCells Tryz.prog 93 = some (false, 1) := by kernel_rfl
theorem tc_bool : tyCells Tryz.prog 4 = some (false, 1) := by kernel_rfl
theorem tc_err : tyCells Tryz.prog 25 = some (false, 1) := by kernel_rfl
theorem zl_tok : zeroLen Tryz.prog 58 = some 4 := by kernel_rfl
theorem zl_str : zeroLen Tryz.prog 9 = some 1 := by kernel_rfl
theorem by_strs : bytesOf Tryz.prog 93 = some 16 := by kernel_rfl
theorem zs_tok : (zeroOf Tryz.prog 58).isSome = true := by kernel_rfl
theorem zs_str : (zeroOf Tryz.prog 9).isSome = true := by kernel_rfl
theorem zo_tok : zeroOf Tryz.prog 58 = some [.int .i64 0, .string ByteArray.empty, .int .i64 0, .int .i64 0] := by kernel_rfl
theorem zo_int : zeroOf Tryz.prog 3 = some [.int .i64 0] := by kernel_rfl
theorem zd_tok : zeroD Tryz.prog 58 = some (.agg [.val (.int .i64 0), .val (.string ByteArray.empty), .val (.int .i64 0), .val (.int .i64 0)]) := by kernel_rfl

theorem hb_Key : hasBody Tryz.prog 76 = true := by kernel_rfl
theorem hb_words : hasBody Tryz.prog 98 = true := by kernel_rfl
theorem hb_small : hasBody Tryz.prog 77 = true := by kernel_rfl
theorem hb_great : hasBody Tryz.prog 78 = true := by kernel_rfl
theorem hb_digit : hasBody Tryz.prog 96 = true := by kernel_rfl
theorem hb_inner : hasBody Tryz.prog 75 = true := by kernel_rfl
theorem hb_sign : hasBody Tryz.prog 80 = true := by kernel_rfl
theorem hb_all : hasBody Tryz.prog 74 = true := by kernel_rfl
theorem hb_Right : hasBody Tryz.prog 63 = true := by kernel_rfl
theorem hb_Right1 : hasBody Tryz.prog 73 = true := by kernel_rfl
theorem hb_Contains : hasBody Tryz.prog 97 = true := by kernel_rfl
theorem hb_Index : hasBody Tryz.prog 109 = true := by kernel_rfl
theorem hb_Fields : hasBody Tryz.prog 110 = true := by kernel_rfl
theorem hb_IndexByte : hasBody Tryz.prog 99 = true := by kernel_rfl
theorem hb_rwords : hasBody Tryz.prog 71 = true := by kernel_rfl
theorem hb_rKey : hasBody Tryz.prog 59 = true := by kernel_rfl
theorem hb_is : hasBody Tryz.prog 57 = true := by kernel_rfl
theorem hb_while : hasBody Tryz.prog 58 = true := by kernel_rfl
theorem hb_rRight3 : hasBody Tryz.prog 29 = true := by kernel_rfl
theorem hb_own : hasBody Tryz.prog 8 = true := by kernel_rfl
theorem hb_awake : hasBody Tryz.prog 5 = true := by kernel_rfl

def Tk.av (n : Tk) : D := .agg [.val (.int .i64 n.kind), .val (.string ⟨n.text.toArray⟩), .val (.int .i64 n.num), .val (.int .i64 n.pos)]
def toks (L : List Tk) : D := .slice (L.map Tk.av)
def strs (L : List (List UInt8)) : D := .slice (L.map str)

theorem flats_strs (L : List (List UInt8)) : flats (L.map str) = L.map str := by
  induction L with
  | nil => rfl
  | cons x r ih => exact congrArg (_ :: ·) ih

/-- a fresh row of texts -/
theorem rep_strs {w : World} {b : Nat} {L : List (List UInt8)} {e : TypeId} {t : Nat × Nat} {St : Stab} (hs : ∀ o, St b o) (hm : L.length ≤ maxLen) (h : w.heap[b]? = some (.cells (L.map fun l => Value.string ⟨l.toArray⟩).toArray e t)) :
    RepD St w (.slice (some ⟨b, 0, none⟩) L.length L.length) (strs L) := by
  refine .slice _ _ _ 1 (L.map str) (L.map fun l => Value.string ⟨l.toArray⟩) (by simp) (Nat.le_refl _) hm (fun x hx => ?_) (by rw [flats_strs]; simp) (fun u hu => ?_) (fun _ => ⟨_, rfl, fun j u hu => ⟨hs _, ?_⟩⟩) (fun j u d hu hd => ?_)
  · obtain ⟨l, _, rfl⟩ := List.mem_map.1 hx; rfl
  · obtain ⟨l, _, rfl⟩ := List.mem_map.1 hu; rfl
  · rw [Addr.add_lit, Nat.zero_add, cell_of_row w b j _ e t h]; simpa using hu
  · rw [flats_strs, List.getElem?_map] at hd
    rw [List.getElem?_map] at hu
    cases hl : L[j]? with
    | none => rw [hl] at hu; cases hu
    | some l => rw [hl] at hu hd; cases hu; cases hd; exact .val _

def wordsT : List UInt8 := [108, 101, 116, 32, 114, 101, 99, 32, 105, 110, 32, 102, 117, 110, 32, 105, 102, 32, 116, 104, 101, 110, 32, 101, 108, 115, 101, 32, 109, 97, 116, 99, 104, 32, 119, 105, 116, 104, 32, 101, 110, 100, 32, 114, 97, 105, 115, 101, 32, 116, 114, 121, 32, 111, 112, 101, 110, 32, 116, 121, 112, 101, 32, 111, 102, 32, 105, 110, 102, 105, 120, 108, 32, 105, 110, 102, 105, 120, 114, 32, 105, 110, 102, 105, 120, 32, 45, 62, 32, 61, 32, 124, 32, 40, 32, 41, 32, 95, 32, 59, 59]
theorem wordsT_kws : Lib.fields wordsT = kws := by decide +kernel

theorem ascii_of {s : List UInt8} (h : s.all (fun b => decide (b.toNat < 128)) = true) : ∀ (j : Nat) b, s[j]? = some b → b.toNat < 128 := fun _j b hb => of_decide_eq_true (List.all_eq_true.1 h b (List.mem_of_getElem? hb))

theorem Fields_ok : PCall Tryz.prog 110 [str wordsT] (strs kws) := by
  intro St w vs hst hgl hr
  obtain ⟨v, rfl, hv⟩ : ∃ v, vs = [v] ∧ v = .string ⟨wordsT.toArray⟩ := by
    have := RepDs.vals (us := [.string ⟨wordsT.toArray⟩]) hr
    exact ⟨_, this, rfl⟩
  subst hv
  refine (Tryz.strings_Fields_laid ⟨wordsT.toArray⟩ w (by decide) (ascii_of (by decide)) ?_).mono fun e w' ⟨he, hw⟩ => ?_
  · obtain ⟨_, _, _, e, t, h0⟩ := hgl
    have key : ∀ (o : Option Nat), o = some 1 → (o.bind fun g => match w.heap[g]? with | some (.cells cs _ _) => some cs | _ => none) = some (Lib.asciiSpaceTab.map fun z => Value.int .u8 z).toArray := by
      rintro _ rfl; simp only [Option.bind_some, h0]
    exact key _ (by kernel_rfl)
  · rw [show Lib.fields (⟨wordsT.toArray⟩ : ByteArray).data.toList = kws from wordsT_kws] at he hw
    subst hw
    refine ⟨_, fun b o => St b o ∨ b = w.heap.size, he, rep_strs (fun _ => .inr rfl) (by decide) (t := (0, 0)) (by show (w.heap.push _)[w.heap.size]? = _; exact Array.getElem?_push_size), (Below.refl _ _).alloc (Nat.le_refl _) _, ?_, fun b o h => h.imp id (fun h => by omega), fun b o h => ?_⟩
    · refine ⟨fun _ _ h => .inl h, fun b o u hc hu => ?_, fun b hc => ?_⟩
      · exact (World.cell?_of_block (a := ⟨b, o, none⟩) (Below.heap_alloc _ _ _ (hst b o hc))).trans hu
      · exact Below.heap_alloc _ _ _ (hst b 0 (hc 0))
    · show b < (w.heap.push _).size
      rw [Array.size_push]; rcases h with h | h
      · have := hst b o h; omega
      · omega

theorem IndexByte_ok (s : List UInt8) (c : UInt8) : PCall Tryz.prog 99 [str s, .val (.int .u8 c.toNat)] (i64 (Lib.indexByte s c)) :=
  pcall_plain (us := [.string ⟨s.toArray⟩, .int .u8 c.toNat]) (fun _ _ => .val _) fun _ w _ => (Tryz.strings_IndexByte _ _ w).mono fun e w' ⟨he, hw⟩ => ⟨by rw [he]; simp, by subst hw; exact Below.refl _ _⟩
end Go.Proofs.YtamhkcnpocdfcaaGreatDoor
/- The token statements: the walks of what tells bytes: small, great, digit, inner, sign, span, all; the document's is, while. -/
namespace Go.Proofs.YtamhkcnpocdfcaaGreatDoor
open Go.Sx
attribute [local irreducible] hasBody Program.underlying Ylds astep alex alexE alexD awp PCall FCall RCall MCall QCall athen ablock ajump rpost fpost mpost

abbrev u8 (c : UInt8) : D := .val (.int .u8 (c.toNat : Int))
theorem bl_is {a b : Bool} (h : a = b) : D.val (Value.bool a) = bl b := by subst h; rfl
theorem i64_is {a b : Int} (h : a = b) : D.val (Value.int .i64 a) = i64 b := by subst h; rfl

theorem small_ok (c : UInt8) : PCall Tryz.prog 77 [u8 c] (bl (isSmall c)) := by
  refine pcall_of Tryz.func77 rfl Tryz.ntmps77 Tryz.results77 rfl ?_
  intro wb St0
  repeat' first
    | refine en_n ?_
    | refine awp_seq ?_
    | refine awp_region ?_
    | refine alex_nil ?_
    | refine w0 ?_
    | (apply k1u (hd := rfl); exact rfl; exact rfl)
    | apply ay (hd := rfl)
    | (apply Y_move_d; exact rfl)
    | (apply Y_assign_d; exact rfl)
    | (apply Y_leq; exact rfl; exact rfl)
    | (apply Y_pick_t; exact rfl; exact rfl)
    | (apply Y_pick_f; exact rfl; exact rfl)
    | (apply w1; exact rfl; exact rfl)
    | (apply gD; exact rfl; exact rfl; (intro hb); rotate_left; (intro hb); rotate_right)
    | refine awp_ret ?_
    | refine rpost_ret ?_
    | (apply res1; exact rfl)
  all_goals exact bl_is (by simp only [isSmall]; first | (rw [decide_eq_decide]; omega) | (symm; rw [decide_eq_false_iff_not]; omega))
theorem great_ok (c : UInt8) : PCall Tryz.prog 78 [u8 c] (bl (isGreat c)) := by
  refine pcall_of Tryz.func78 rfl Tryz.ntmps78 Tryz.results78 rfl ?_
  intro wb St0
  repeat' first
    | refine en_n ?_
    | refine awp_seq ?_
    | refine awp_region ?_
    | refine alex_nil ?_
    | refine w0 ?_
    | (apply k1u (hd := rfl); exact rfl; exact rfl)
    | apply ay (hd := rfl)
    | (apply Y_move_d; exact rfl)
    | (apply Y_assign_d; exact rfl)
    | (apply Y_leq; exact rfl; exact rfl)
    | (apply Y_pick_t; exact rfl; exact rfl)
    | (apply Y_pick_f; exact rfl; exact rfl)
    | (apply w1; exact rfl; exact rfl)
    | (apply gD; exact rfl; exact rfl; (intro hb); rotate_left; (intro hb); rotate_right)
    | refine awp_ret ?_
    | refine rpost_ret ?_
    | (apply res1; exact rfl)
  all_goals exact bl_is (by simp only [isGreat]; first | (rw [decide_eq_decide]; omega) | (symm; rw [decide_eq_false_iff_not]; omega))
theorem digit_ok (c : UInt8) : PCall Tryz.prog 96 [u8 c] (bl (isDigit c)) := by
  refine pcall_of Tryz.func96 rfl Tryz.ntmps96 Tryz.results96 rfl ?_
  intro wb St0
  repeat' first
    | refine en_n ?_
    | refine awp_seq ?_
    | refine awp_region ?_
    | refine alex_nil ?_
    | refine w0 ?_
    | (apply k1u (hd := rfl); exact rfl; exact rfl)
    | apply ay (hd := rfl)
    | (apply Y_move_d; exact rfl)
    | (apply Y_assign_d; exact rfl)
    | (apply Y_leq; exact rfl; exact rfl)
    | (apply Y_pick_t; exact rfl; exact rfl)
    | (apply Y_pick_f; exact rfl; exact rfl)
    | (apply w1; exact rfl; exact rfl)
    | (apply gD; exact rfl; exact rfl; (intro hb); rotate_left; (intro hb); rotate_right)
    | refine awp_ret ?_
    | refine rpost_ret ?_
    | (apply res1; exact rfl)
  all_goals exact bl_is (by simp only [isDigit]; first | (rw [decide_eq_decide]; omega) | (symm; rw [decide_eq_false_iff_not]; omega))
theorem u8_eq (c d : UInt8) : (c == d) = decide ((c.toNat : Int) = (d.toNat : Int)) := by
  cases h : c == d with
  | true => rw [eq_of_beq h]; simp
  | false =>
    symm; rw [decide_eq_false_iff_not]; intro h2
    have : c = d := UInt8.toNat_inj.1 (by omega)
    rw [this] at h; simp at h
theorem inner_ok (c : UInt8) : PCall Tryz.prog 75 [u8 c] (bl (isInner c)) := by
  refine pcall_of Tryz.func75 rfl Tryz.ntmps75 Tryz.results75 rfl ?_
  intro wb St0
  repeat' first
    | refine en_n ?_
    | refine awp_seq ?_
    | refine awp_region ?_
    | refine alex_nil ?_
    | refine w0 ?_
    | (apply k0u (hd := rfl); exact rfl; exact rfl)
    | (apply Y_call (hb := hb_small) (hc := small_ok c))
    | (apply Y_call (hb := hb_great) (hc := great_ok c))
    | (apply Y_call (hb := hb_digit) (hc := digit_ok c))
    | apply ay (hd := rfl)
    | (apply Y_move_d; exact rfl)
    | (apply Y_assign_d; exact rfl)
    | (apply Y_eql; exact rfl; exact rfl)
    | (apply Y_pick_t; exact rfl; exact rfl)
    | (apply Y_pick_f; exact rfl; exact rfl)
    | (apply w1; exact rfl; exact rfl)
    | (apply gD; exact rfl; exact rfl; (intro hb); rotate_left; (intro hb); rotate_right)
    | refine awp_ret ?_
    | refine rpost_ret ?_
    | (apply res1; exact rfl)
    | exact CoL_nil
    | refine CoL_d rfl ?_
  all_goals refine bl_is ?_
  all_goals simp only [isInner, isSmall, isGreat, isDigit, u8_eq, ← Bool.decide_or, show ((95 : UInt8).toNat : Int) = 95 from rfl, show ((39 : UInt8).toNat : Int) = 39 from rfl] at *
  all_goals first | (rw [decide_eq_decide]; omega) | (symm; rw [decide_eq_true_eq]; omega)
theorem idx_is (c : UInt8) : decide (Lib.indexByte signL c ≥ 0) = isSign c := by rw [isSign, Lib.contains_iff_indexByte]
theorem sign_ok (c : UInt8) : PCall Tryz.prog 80 [u8 c] (bl (isSign c)) := by
  refine pcall_of Tryz.func80 rfl Tryz.ntmps80 Tryz.results80 rfl ?_
  intro wb St0
  repeat' first
    | refine en_n ?_
    | refine awp_seq ?_
    | refine awp_region ?_
    | refine alex_nil ?_
    | refine w0 ?_
    | (apply Y_call (hb := hb_IndexByte) (hc := IndexByte_ok signL c))
    | apply ay (hd := rfl)
    | (apply Y_move_d; exact rfl)
    | (apply Y_assign_d; exact rfl)
    | (apply Y_geq; exact rfl; exact rfl)
    | refine awp_ret ?_
    | refine rpost_ret ?_
    | (apply res1; exact rfl)
    | exact CoL_nil
    | refine CoL_d rfl ?_
  exact bl_is (idx_is c)
def isBound (c : UInt8) : Bool := c != 10
end Go.Proofs.YtamhkcnpocdfcaaGreatDoor
/- The token statements: the document's is. -/
namespace Go.Proofs.YtamhkcnpocdfcaaGreatDoor
open Go.Sx
attribute [local irreducible] hasBody Program.underlying Ylds astep alex alexE alexD awp PCall FCall RCall MCall QCall athen ablock ajump rpost fpost mpost

def isK (c : UInt8) : Int := if isSign c then 5 else if isSmall c then 1 else if isGreat c then 2 else if isDigit c then 3 else if c = 95 ∨ c = 39 then 4 else 0
theorem sign_hit {c : UInt8} {i : Nat} (h : i < 16) (h1 : ((signL.getD i 0).toNat : Int) = (c.toNat : Int)) : isSign c = true := by
  have : signL.getD i 0 = c := UInt8.toNat_inj.1 (by omega)
  have h2 : i < signL.length := h
  rw [isSign, ← this, List.getD_eq_getElem?_getD, List.getElem?_eq_getElem h2]
  simp
theorem sign_miss {c : UInt8} (h : ∀ j, j < 16 → (signL.getD j 0) ≠ c) : isSign c = false := by
  cases h2 : isSign c with
  | false => rfl
  | true =>
    rw [isSign] at h2
    obtain ⟨j, hj, e⟩ := List.getElem_of_mem (List.contains_iff_mem.1 h2)
    refine absurd ?_ (h j hj)
    rw [List.getD_eq_getElem?_getD, List.getElem?_eq_getElem hj]; exact e

set_option maxHeartbeats 4000000 in
theorem is_ok (c : UInt8) : PCall Tryz.prog 57 [u8 c] (i64 (isK c)) := by
  refine pcall_of Tryz.func57 rfl Tryz.ntmps57 Tryz.results57 rfl ?_
  intro wb St0
  repeat' first
    | refine en_n ?_
    | refine awp_seq ?_
    | refine awp_region ?_
    | refine alex_nil ?_
    | refine w0 ?_
    | apply ay (hd := rfl)
    | (apply Y_assign_d; exact rfl)
    | refine awp_block ?_
  refine awp_loopF (α := Nat) (fun i => i ≤ 16 ∧ ∀ j, j < i → signL.getD j 0 ≠ c) (fun i => [(0, .d (u8 c)), (3, .d (str signL)), (4, .d (i64 (i : Int)))]) (fun _ => []) (fun i => 16 - i) 0 ⟨Nat.zero_le _, by omega⟩
      (Fits_mk (Le_cons rfl (Le_cons rfl (Le_cons rfl Le_nil))) Pre_nil rfl rfl) ?_
  rintro i ⟨hi1, hi2⟩
  have hL : signL.length = 16 := rfl
  repeat' first
    | refine en_n ?_
    | refine awp_seq ?_
    | refine awp_region ?_
    | refine alex_nil ?_
    | refine w0 ?_
    | (apply k1u (hd := rfl); exact rfl; exact rfl)
    | (apply k0u (hd := rfl); exact rfl; exact rfl)
    | (apply Y_len_l; exact rfl; with_reducible exact ustr)
    | (apply Y_idx_l; exact rfl; exact rfl; with_reducible exact ustr; (first | assumption | omega))
    | apply ay (hd := rfl)
    | (apply Y_move_d; exact rfl)
    | (apply Y_assign_d; exact rfl)
    | (apply Y_lss; exact rfl; exact rfl)
    | (apply Y_leq; exact rfl; exact rfl)
    | (apply Y_geq; exact rfl; exact rfl)
    | (apply Y_eql; exact rfl; exact rfl)
    | (apply Y_add; exact rfl; exact rfl)
    | (apply Y_pick_t; exact rfl; exact rfl)
    | (apply Y_pick_f; exact rfl; exact rfl)
    | (apply w1; exact rfl; exact rfl)
    | (apply gD; exact rfl; exact rfl; (intro hb); rotate_left; (intro hb); rotate_right)
    | (apply awp_condD; exact rfl; (intro hb); rotate_left; (intro hb); rotate_right)
    | (apply awp_condT; exact rfl)
    | (apply awp_condF; exact rfl)
    | refine awp_block ?_
    | refine awp_skip ?_
    | refine awp_ret ?_
    | refine awp_exit ?_
    | refine en_r ?_
    | refine en_e ?_
    | refine eb_n ?_
    | refine eb_r ?_
    | refine eb_e ?_
    | refine rpost_ret ?_
    | (apply res1; exact rfl)
  · rename_i h1; rw [hL] at h1
    exact i64_is (by rw [isK, sign_hit (by omega) hb, if_pos rfl])
  · omega
  · rename_i h1; rw [hL] at h1
    refine ⟨i + 1, ⟨by omega, fun j hj => ?_⟩, by omega, Fits_mk (Le_cons rfl (Le_cons rfl (Le_cons rfl Le_nil))) Pre_nil rfl rfl⟩
    rcases Nat.lt_or_ge j i with h | h
    · exact hi2 j h
    · rw [show j = i by omega]; rintro rfl; exact hb rfl
  all_goals
    have hs : isSign c = false := sign_miss fun j hj => hi2 j (by omega)
    have e95 : c = 95 ↔ (c.toNat : Int) = 95 := by rw [← UInt8.toNat_inj]; show _ = 95 ↔ _; omega
    have e39 : c = 39 ↔ (c.toNat : Int) = 39 := by rw [← UInt8.toNat_inj]; show _ = 39 ↔ _; omega
    refine i64_is ?_
    rw [isK, hs, if_neg (by decide)]
    simp only [isSmall, isGreat, isDigit, decide_eq_true_eq, e95, e39]
    repeat' split
    all_goals first | rfl | omega
end Go.Proofs.YtamhkcnpocdfcaaGreatDoor
/- The token statements: span and all: functions that are handed a function. -/
namespace Go.Proofs.YtamhkcnpocdfcaaGreatDoor
open Go.Sx
attribute [local irreducible] hasBody Program.underlying Ylds astep alex alexE alexD awp PCall FCall RCall MCall QCall athen ablock ajump rpost fpost mpost

theorem spanF_le (p : UInt8 → Bool) : ∀ s : List UInt8, spanF p s ≤ s.length
  | [] => Nat.le_refl _
  | c :: s => by
    rw [spanF]; split
    · exact Nat.succ_le_succ (spanF_le p s)
    · exact Nat.zero_le _
theorem spanF_in (p : UInt8 → Bool) : ∀ (s : List UInt8) (j : Nat), j < spanF p s → p (s.getD j 0) = true
  | [], _, h => absurd h (Nat.not_lt_zero _)
  | c :: s, j, h => by
    rw [spanF] at h
    split at h
    · rename_i hp
      cases j with
      | zero => exact hp
      | succ j => exact spanF_in p s j (by omega)
    · exact absurd h (Nat.not_lt_zero _)
theorem spanF_is (p : UInt8 → Bool) : ∀ (s : List UInt8) (n : Nat), n ≤ s.length → (∀ j, j < n → p (s.getD j 0) = true) → (n = s.length ∨ p (s.getD n 0) = false) → spanF p s = n
  | [], n, h, _, _ => by rw [spanF]; simp at h; omega
  | c :: s, n, h, h1, h2 => by
    rw [spanF]
    cases n with
    | zero =>
      have h2 : p c = false := by
        rcases h2 with h2 | h2
        · simp at h2
        · exact h2
      rw [h2]; rfl
    | succ n =>
      have h3 : p c = true := h1 0 (by omega)
      rw [if_pos h3, spanF_is p s n (by simpa using h) (fun j hj => h1 (j + 1) (by omega)) (by simpa using h2)]

theorem getB {l : List UInt8} {i : Nat} (h : i < (⟨l.toArray⟩ : ByteArray).size) : (⟨l.toArray⟩ : ByteArray)[i]'h = l.getD i 0 := by
  have hlt : i < l.length := by rw [str_size] at h; exact h
  rw [List.getD_eq_getElem?_getD, List.getElem?_eq_getElem hlt]; rfl
/-- what the range hands over: a letter of one byte -/
theorem dec_low {l : List UInt8} {i : Nat} (h : i < l.length) (h1 : ¬ ((Utf8.decode ⟨l.toArray⟩ i).1 : Int) > 126) : (Utf8.decode ⟨l.toArray⟩ i).2 = 1 ∧ (Utf8.decode ⟨l.toArray⟩ i).1 = (l.getD i 0).toNat ∧ (l.getD i 0).toNat ≤ 126 := by
  have hs : i < (⟨l.toArray⟩ : ByteArray).size := by rw [str_size]; exact h
  rcases Nat.lt_or_ge ((⟨l.toArray⟩ : ByteArray)[i]'hs).toNat 128 with h3 | h3
  · have e := decode_ascii ⟨l.toArray⟩ i hs h3
    rw [getB hs] at e
    rw [e] at h1 ⊢
    dsimp only at h1
    exact ⟨rfl, rfl, by omega⟩
  · have := (decode_high ⟨l.toArray⟩ i hs h3).1
    omega
theorem dec_beyond {l : List UInt8} {i : Nat} (h : i < l.length) (h1 : ((Utf8.decode ⟨l.toArray⟩ i).1 : Int) > 126) : (l.getD i 0).toNat > 126 := by
  have hs : i < (⟨l.toArray⟩ : ByteArray).size := by rw [str_size]; exact h
  rcases Nat.lt_or_ge ((⟨l.toArray⟩ : ByteArray)[i]'hs).toNat 128 with h3 | h3
  · have e := decode_ascii ⟨l.toArray⟩ i hs h3
    rw [getB hs] at e
    rw [e] at h1
    dsimp only at h1
    omega
  · rw [getB hs] at h3
    omega
def allF (p : UInt8 → Bool) (s : List UInt8) : Bool := s.all p && !s.isEmpty
theorem all_out {p : UInt8 → Bool} {s : List UInt8} {i : Nat} (h : i < s.length) (h1 : p (s.getD i 0) = false) : allF p s = false := by
  have : s.all p = false := by
    rw [List.all_eq_false]
    refine ⟨s.getD i 0, ?_, by rw [h1]; decide⟩
    rw [List.getD_eq_getElem?_getD, List.getElem?_eq_getElem h]; simp
  rw [allF, this]; rfl
theorem all_in {p : UInt8 → Bool} {s : List UInt8} (h : ∀ j, j < s.length → p (s.getD j 0) = true) : allF p s = decide (s ≠ []) := by
  have : s.all p = true := by
    rw [List.all_eq_true]; intro x hx
    obtain ⟨j, hj, rfl⟩ := List.getElem_of_mem hx
    have := h j hj
    rwa [List.getD_eq_getElem?_getD, List.getElem?_eq_getElem hj] at this
  rw [allF, this]
  cases s <;> simp

theorem all_ok (f : FuncId) (p : UInt8 → Bool) (hb : hasBody Tryz.prog f = true) (hp : ∀ c, PCall Tryz.prog f [u8 c] (bl (p c))) (hp2 : ∀ c, c.toNat > 126 → p c = false) (s : List UInt8) :
    QCall Tryz.prog 74 [.d (str s), .clo f []] [] (bl (allF p s)) := by
  have hbf := hb; clear hb
  refine qcall_of Tryz.func74 rfl Tryz.ntmps74 Tryz.results74 rfl ?_
  intro wb St0
  repeat' first
    | refine en_n ?_
    | refine awp_seq ?_
    | refine awp_region ?_
    | refine alex_nil ?_
    | refine w0 ?_
    | (apply aRange (hd := rfl) (hro := rfl); exact rfl; with_reducible exact ustr)
    | apply ay (hd := rfl)
    | (apply Y_move_d; exact rfl)
    | (apply Y_assign_d; exact rfl)
    | refine awp_block ?_
  refine awp_loopF (α := Nat) (fun i => i ≤ s.length ∧ ∀ j, j < i → p (s.getD j 0) = true)
    (fun i => [(0, .d (str s)), (1, .clo f []), (8, .ptr 0 0)]) (fun i => [.iter ⟨s.toArray⟩ i]) (fun i => s.length - i) 0 ⟨Nat.zero_le _, by omega⟩
      (Fits_mk (Le_cons rfl (Le_cons rfl (Le_cons rfl Le_nil))) (Pre_cons rfl rfl Pre_nil) rfl rfl) ?_
  rintro i ⟨hi1, hi2⟩
  repeat' first
    | refine en_n ?_
    | refine awp_seq ?_
    | refine awp_region ?_
    | refine alex_nil ?_
    | refine w0 ?_
    | (apply k0u (hd := rfl); exact rfl; exact rfl)
    | (apply Y_neqs; exact rfl; exact rfl)
    | (apply aNext (hd := rfl) (hro := rfl); exact rfl; exact rfl; (intro hb); rotate_left; (intro hb); rotate_right)
    | (apply Y_move_clo; exact rfl)
    | (apply Y_conv; exact rfl; with_reducible exact si32; with_reducible exact uu8)
    | (apply Y_pclo (hb := hbf) (hc := hp (s.getD i 0)); exact rfl)
    | apply ay (hd := rfl)
    | (apply Y_move_d; exact rfl)
    | (apply Y_assign_d; exact rfl)
    | (apply Y_gtr; exact rfl; exact rfl)
    | (apply Y_not; exact rfl)
    | (apply Y_pick_t; exact rfl; exact rfl)
    | (apply Y_pick_f; exact rfl; exact rfl)
    | (apply Y_extract; exact rfl; exact rfl)
    | (apply w1; exact rfl; exact rfl)
    | (apply gD; exact rfl; exact rfl; (intro hb); rotate_left; (intro hb); rotate_right)
    | (apply awp_condT; exact rfl)
    | (apply awp_condF; exact rfl)
    | (apply awp_cond; exact rfl; (intro hb); rotate_left; (intro hb); rotate_right)
    | refine awp_block ?_
    | refine awp_skip ?_
    | refine awp_ret ?_
    | refine awp_exit ?_
    | refine en_r ?_
    | refine en_e ?_
    | refine eb_n ?_
    | refine eb_r ?_
    | refine eb_e ?_
    | refine rpost_ret ?_
    | (apply res1; exact rfl)
  · rename_i h0
    have hlt : i < s.length := by rw [str_size] at h0; exact h0
    exact bl_is (all_out hlt (hp2 _ (dec_beyond hlt hb))).symm
  · rename_i h0
    have hlt : i < s.length := by rw [str_size] at h0; exact h0
    obtain ⟨_, e, hl⟩ := dec_low hlt hb
    refine CoL_d ?_ CoL_nil
    show SV.d (D.val (.int .u8 (IntKind.u8.wrap (((Utf8.decode ⟨s.toArray⟩ i).1 : Nat) : Int)))) = _
    rw [e, wrap_u8, show (((s.getD i 0).toNat : Nat) : Int) % 256 = ((s.getD i 0).toNat : Int) by omega]
  · rename_i h0 h1
    have hlt : i < s.length := by rw [str_size] at h0; exact h0
    exact bl_is (all_out hlt (by simpa using hb)).symm
  · rename_i h0 h1
    have hlt : i < s.length := by rw [str_size] at h0; exact h0
    obtain ⟨e1, _, hl⟩ := dec_low hlt h1
    refine ⟨i + 1, ⟨by omega, fun j hj => ?_⟩, by omega, Fits_mk (Le_cons rfl (Le_cons rfl (Le_cons rfl Le_nil))) (Pre_cons rfl (by rw [e1]) Pre_nil) rfl rfl⟩
    rcases Nat.lt_or_ge j i with h | h
    · exact hi2 j h
    · rw [show j = i by omega]; simpa using hb
  · have hge : ¬ i < s.length := by rw [str_size] at hb; exact hb
    exact bl_is (all_in fun j hj => hi2 j (by omega)).symm

end Go.Proofs.YtamhkcnpocdfcaaGreatDoor
/- The token statements: the document's while; whether a text is a word of the language. -/
namespace Go.Proofs.YtamhkcnpocdfcaaGreatDoor
open Go.Sx
attribute [local irreducible] hasBody Program.underlying Ylds astep alex alexE alexD awp PCall FCall RCall MCall QCall athen ablock ajump rpost fpost mpost

def btw (lo hi : Int) (c : UInt8) : Bool := decide (lo ≤ isK c ∧ isK c ≤ hi)
theorem drop_getD (s : List UInt8) (a j : Nat) : (s.drop a).getD j 0 = s.getD (a + j) 0 := by
  rw [List.getD_eq_getElem?_getD, List.getD_eq_getElem?_getD, List.getElem?_drop]

theorem while_ok (s : List UInt8) (at_ : Nat) (lo hi : Int) (hs : s.length ≤ 1000000) (ha : at_ ≤ s.length) :
    PCall Tryz.prog 58 [str s, i64 (at_ : Int), i64 lo, i64 hi] (i64 ((at_ + spanF (btw lo hi) (s.drop at_) : Nat) : Int)) := by
  refine pcall_of Tryz.func58 rfl Tryz.ntmps58 Tryz.results58 rfl ?_
  intro wb St0
  repeat' first
    | refine en_n ?_
    | refine awp_seq ?_
    | refine awp_region ?_
    | refine alex_nil ?_
    | refine w0 ?_
    | apply ay (hd := rfl)
    | (apply Y_assign_d; exact rfl)
    | refine awp_block ?_
  refine awp_loopF (α := Nat) (fun i => at_ + i ≤ s.length ∧ ∀ j, j < i → btw lo hi ((s.drop at_).getD j 0) = true) (fun i => [(0, .d (str s)), (1, .d (i64 ((at_ + i : Nat) : Int))), (2, .d (i64 lo)), (3, .d (i64 hi))]) (fun _ => []) (fun i => s.length - (at_ + i)) 0 ⟨by omega, by omega⟩
      (Fits_mk (Le_cons rfl (Le_cons rfl (Le_cons rfl (Le_cons rfl Le_nil)))) Pre_nil rfl rfl) ?_
  rintro i ⟨hi1, hi2⟩
  repeat' first
    | refine en_n ?_
    | refine awp_seq ?_
    | refine awp_region ?_
    | refine alex_nil ?_
    | refine w0 ?_
    | (apply k1u (hd := rfl); exact rfl; exact rfl)
    | (apply Y_len_l; exact rfl; with_reducible exact ustr)
    | (apply Y_idx_l; exact rfl; exact rfl; with_reducible exact ustr; (first | assumption | omega))
    | (apply Y_call (hb := hb_is) (hc := is_ok (s.getD (at_ + i) 0)))
    | apply ay (hd := rfl)
    | (apply Y_move_d; exact rfl)
    | (apply Y_assign_d; exact rfl)
    | (apply Y_lss; exact rfl; exact rfl)
    | (apply Y_leq; exact rfl; exact rfl)
    | (apply Y_geq; exact rfl; exact rfl)
    | (apply Y_add; exact rfl; exact rfl)
    | (apply Y_pick_t; exact rfl; exact rfl)
    | (apply Y_pick_f; exact rfl; exact rfl)
    | (apply w1; exact rfl; exact rfl)
    | (apply gD; exact rfl; exact rfl; (intro hb); rotate_left; (intro hb); rotate_right)
    | (apply awp_condD; exact rfl; (intro hb); rotate_left; (intro hb); rotate_right)
    | (apply awp_condF; exact rfl)
    | refine awp_block ?_
    | refine awp_skip ?_
    | refine awp_ret ?_
    | refine awp_exit ?_
    | refine en_e ?_
    | refine eb_n ?_
    | refine eb_e ?_
    | refine rpost_ret ?_
    | (apply res1; exact rfl)
    | exact CoL_nil
    | refine CoL_d rfl ?_
  · omega
  · rename_i h1 h2
    have hb : btw lo hi ((s.drop at_).getD i 0) = true := by
      rw [drop_getD, btw, decide_eq_true_eq]; exact ⟨h2, hb⟩
    refine ⟨i + 1, ⟨by omega, fun j hj => ?_⟩, by omega, Fits_mk (Le_cons rfl (Le_d rfl (by rw [Int.natCast_add, Int.natCast_add, Int.natCast_add, Int.add_assoc]; rfl) (Le_cons rfl (Le_cons rfl Le_nil)))) Pre_nil rfl rfl⟩
    rcases Nat.lt_or_ge j i with h | h
    · exact hi2 j h
    · rw [show j = i by omega]; exact hb
  · rename_i h1 h2
    have hb : btw lo hi ((s.drop at_).getD i 0) = false := by
      rw [drop_getD, btw, decide_eq_false_iff_not]; exact fun h => hb h.2
    rw [spanF_is _ _ i (by rw [List.length_drop]; omega) hi2 (.inr hb)]
  · rename_i h1
    have hb : btw lo hi ((s.drop at_).getD i 0) = false := by
      rw [drop_getD, btw, decide_eq_false_iff_not]; exact fun h => hb h.1
    rw [spanF_is _ _ i (by rw [List.length_drop]; omega) hi2 (.inr hb)]
  · rw [spanF_is _ _ i (by rw [List.length_drop]; omega) hi2 (.inl (by rw [List.length_drop]; omega))]
end Go.Proofs.YtamhkcnpocdfcaaGreatDoor
/- The token statements: whether a text is a word of the language. -/
namespace Go.Proofs.YtamhkcnpocdfcaaGreatDoor
open Go.Sx
attribute [local irreducible] hasBody Program.underlying Ylds astep alex alexE alexD awp PCall FCall RCall MCall QCall athen ablock ajump rpost fpost mpost

def idxT (A : List (List UInt8)) (b : List UInt8) : Int := if b ∈ A then ((A.takeWhile fun x => decide (x ≠ b)).length : Int) else -1
theorem idxT_hit {A : List (List UInt8)} {b : List UInt8} {i : Nat} (h0 : ∀ j, j < i → A[j]? ≠ some b) (h1 : A[i]? = some b) : idxT A b = i := by
  have hm : b ∈ A := List.mem_of_getElem? h1
  rw [idxT, if_pos hm]
  congr 1
  induction A generalizing i with
  | nil => simp at h1
  | cons x r ih =>
    cases i with
    | zero => simp at h1; simp [List.takeWhile, h1]
    | succ i =>
      have hx : x ≠ b := by have := h0 0 (by omega); simpa using this
      rw [List.takeWhile_cons, if_pos (by simpa using hx), List.length_cons]
      rw [ih (i := i) (fun j hj => by have := h0 (j + 1) (by omega); simpa using this) (by simpa using h1) (List.mem_of_getElem? (by simpa using h1))]
theorem idxT_miss {A : List (List UInt8)} {b : List UInt8} (h : b ∉ A) : idxT A b = -1 := if_neg h
theorem str_inj {a b : List UInt8} (h : (⟨a.toArray⟩ : ByteArray) = ⟨b.toArray⟩) : a = b := by
  have := ByteArray.ext_iff.1 h
  simpa using this
theorem strs_len (L : List (List UInt8)) : ((L.map str).length : Int) = L.length := by simp

theorem IndexT_ok (A : List (List UInt8)) (b : List UInt8) (hL : A.length ≤ 2000000) : PCall Tryz.prog 109 [strs A, str b] (i64 (idxT A b)) := by
  refine pcall_of Tryz.func109 rfl Tryz.ntmps109 Tryz.results109 rfl ?_
  intro wb St0
  repeat' first
    | refine en_n ?_
    | refine awp_seq ?_
    | refine awp_region ?_
    | refine alex_nil ?_
    | refine w0 ?_
    | apply ay (hd := rfl)
    | (apply Y_move_d; exact rfl)
    | (apply Y_assign_d; exact rfl)
    | (apply Y_len_m; exact rfl; exact (by first | with_reducible exact et_toks | with_reducible exact et_strs | with_reducible exact et_u8s))
    | refine awp_block ?_
  refine awp_loopF (α := Nat) (fun i => i ≤ A.length ∧ ∀ j, j < i → A[j]? ≠ some b) (fun i => [(0, .d (strs A)), (1, .d (str b)), (7, .d (i64 (A.length : Int))), (8, .d (i64 (i : Int)))]) (fun _ => []) (fun i => A.length - i) 0 ⟨Nat.zero_le _, by omega⟩
      (Fits_mk (Le_cons rfl (Le_cons rfl (Le_d rfl (by first | rfl | simp) (Le_cons rfl Le_nil)))) Pre_nil rfl rfl) ?_
  rintro i ⟨hi1, hi2⟩
  repeat' first
    | refine en_n ?_
    | refine awp_seq ?_
    | refine awp_region ?_
    | refine alex_nil ?_
    | refine w0 ?_
    | (apply Y_eqs; exact rfl; exact rfl)
    | (apply aI (hd := rfl); (first | exact Co_dd rfl | exact Co_bb rfl rfl rfl | exact Co_nn rfl); exact rfl; exact (by first | with_reducible exact es_toks | with_reducible exact es_strs | with_reducible exact es_u8s); exact fun _ => rfl; rotate_left; intro v hv; rotate_right)
    | apply ay (hd := rfl)
    | (apply Y_move_d; exact rfl)
    | (apply Y_assign_d; exact rfl)
    | (apply Y_load_r1; exact rfl; exact (by first | with_reducible exact tc_str | with_reducible exact tc_int | with_reducible exact tc_kind | with_reducible exact tc_tok | with_reducible exact tc_u8s | with_reducible exact tc_toks | with_reducible exact tc_strs | with_reducible exact tc_bool | with_reducible exact tc_err | with_reducible exact tc_i64))
    | (apply Y_lss; exact rfl; exact rfl)
    | (apply Y_add; exact rfl; exact rfl)
    | (apply awp_condD; exact rfl; (intro hb); rotate_left; (intro hb); rotate_right)
    | refine awp_block ?_
    | refine awp_skip ?_
    | refine awp_ret ?_
    | refine awp_exit ?_
    | refine en_r ?_
    | refine en_e ?_
    | refine eb_n ?_
    | refine eb_r ?_
    | refine eb_e ?_
    | refine rpost_ret ?_
    | (apply res1; exact rfl)
  · omega
  · subst hb; rw [idxT_hit hi2 hv]
  · omega
  · refine ⟨i + 1, ⟨by omega, fun j hj => ?_⟩, by omega, Fits_mk (Le_cons rfl (Le_cons rfl (Le_cons rfl (Le_cons rfl Le_nil)))) Pre_nil rfl rfl⟩
    rcases Nat.lt_or_ge j i with h1 | h1
    · exact hi2 j h1
    · rw [show j = i by omega]; intro h2; exact hb (Option.some.inj (h2.symm.trans hv))
  · rw [idxT_miss]; intro h1
    obtain ⟨j, hj, h2⟩ := List.getElem_of_mem h1
    exact hi2 j (by omega) (by rw [List.getElem?_eq_getElem hj, h2])

theorem ContainsT_ok (A : List (List UInt8)) (b : List UInt8) (hL : A.length ≤ 2000000) : PCall Tryz.prog 97 [strs A, str b] (bl (A.contains b)) := by
  refine pcall_of Tryz.func97 rfl Tryz.ntmps97 Tryz.results97 rfl ?_
  intro wb St0
  repeat' first
    | refine en_n ?_
    | refine awp_seq ?_
    | refine awp_region ?_
    | refine alex_nil ?_
    | refine w0 ?_
    | (apply Y_call (hb := hb_Index) (hc := IndexT_ok A b hL))
    | apply ay (hd := rfl)
    | (apply Y_move_d; exact rfl)
    | (apply Y_assign_d; exact rfl)
    | (apply Y_geq; exact rfl; exact rfl)
    | refine awp_ret ?_
    | refine rpost_ret ?_
    | (apply res1; exact rfl)
    | exact CoL_nil
    | refine CoL_d rfl ?_
  refine bl_is ?_
  by_cases h : b ∈ A
  · rw [List.contains_iff_mem.2 h, idxT, if_pos h]; exact decide_eq_true (by omega)
  · rw [show A.contains b = false by simpa using h, idxT_miss h]; rfl

theorem words_ok : PCall Tryz.prog 98 [] (strs kws) := by
  refine pcall_of Tryz.func98 rfl Tryz.ntmps98 Tryz.results98 rfl ?_
  intro wb St0
  repeat' first
    | refine en_n ?_
    | refine awp_seq ?_
    | refine awp_region ?_
    | refine alex_nil ?_
    | refine w0 ?_
    | (apply Y_call (hb := hb_Fields) (hc := Fields_ok))
    | apply ay (hd := rfl)
    | (apply Y_assign_d; exact rfl)
    | (apply Y_assign_nil; exact rfl)
    | refine awp_ret ?_
    | refine rpost_ret ?_
    | (apply res1; exact rfl)
    | exact CoL_nil
    | refine CoL_d rfl ?_
  all_goals rfl
theorem Key_ok (s : List UInt8) : PCall Tryz.prog 76 [str s] (bl (isKey s)) := by
  refine pcall_of Tryz.func76 rfl Tryz.ntmps76 Tryz.results76 rfl ?_
  intro wb St0
  repeat' first
    | refine en_n ?_
    | refine awp_seq ?_
    | refine awp_region ?_
    | refine alex_nil ?_
    | refine w0 ?_
    | (apply Y_call (hb := hb_words) (hc := words_ok))
    | (apply Y_call (hb := hb_Contains) (hc := ContainsT_ok kws s (by decide)))
    | apply ay (hd := rfl)
    | (apply Y_move_d; exact rfl)
    | (apply Y_assign_d; exact rfl)
    | refine awp_ret ?_
    | refine rpost_ret ?_
    | (apply res1; exact rfl)
    | exact CoL_nil
    | refine CoL_d rfl ?_
  all_goals rfl
theorem CoL_strs {η : List Ob} {σ : Sl} : ∀ L : List (List UInt8), CoL η σ (L.map fun l => Operand.const (.string ⟨l.toArray⟩)) (L.map str)
  | [] => CoL_nil
  | _ :: r => CoL_d rfl (CoL_strs r)
theorem rwords_ok : PCall Tryz.prog 71 [] (strs kws) := by
  refine pcall_of Tryz.func71 rfl Tryz.ntmps71 Tryz.results71 rfl ?_
  intro wb St0
  repeat' first
    | refine en_n ?_
    | refine awp_seq ?_
    | refine awp_region ?_
    | refine alex_nil ?_
    | refine w0 ?_
    | (refine Y_lit (sz := 1) (ds := kws.map str) (xs := kws.map fun l => Operand.const (.string ⟨l.toArray⟩)) ety_strs es_strs zs_str rfl (by decide) rfl rfl (CoL_strs kws) (by decide) rfl)
    | apply ay (hd := rfl)
    | (apply Y_assign_d; exact rfl)
    | (apply Y_assign_nil; exact rfl)
    | refine awp_ret ?_
    | refine rpost_ret ?_
    | (apply res1; exact rfl)
  all_goals rfl
theorem rKey_ok (s : List UInt8) : PCall Tryz.prog 59 [str s] (bl (isKey s)) := by
  refine pcall_of Tryz.func59 rfl Tryz.ntmps59 Tryz.results59 rfl ?_
  intro wb St0
  repeat' first
    | refine en_n ?_
    | refine awp_seq ?_
    | refine awp_region ?_
    | refine alex_nil ?_
    | refine w0 ?_
    | (apply Y_call (hb := hb_rwords) (hc := rwords_ok))
    | apply ay (hd := rfl)
    | (apply Y_assign_d; exact rfl)
    | refine awp_block ?_
    | exact CoL_nil
  refine awp_loopF (α := Nat) (fun i => i ≤ kws.length ∧ ∀ j, j < i → kws[j]? ≠ some s) (fun i => [(0, .d (str s)), (3, .d (strs kws)), (4, .d (i64 (i : Int)))]) (fun _ => []) (fun i => kws.length - i) 0 ⟨Nat.zero_le _, by omega⟩
      (Fits_mk (Le_cons rfl (Le_cons rfl (Le_cons rfl Le_nil))) Pre_nil rfl rfl) ?_
  rintro i ⟨hi1, hi2⟩
  have hk : kws.length = 25 := rfl
  repeat' first
    | refine en_n ?_
    | refine awp_seq ?_
    | refine awp_region ?_
    | refine alex_nil ?_
    | refine w0 ?_
    | (apply Y_eqs; exact rfl; exact rfl)
    | (apply aI (hd := rfl); (first | exact Co_dd rfl | exact Co_bb rfl rfl rfl | exact Co_nn rfl); exact rfl; exact (by first | with_reducible exact es_toks | with_reducible exact es_strs | with_reducible exact es_u8s); exact fun _ => rfl; rotate_left; intro v hv; rotate_right)
    | apply ay (hd := rfl)
    | (apply Y_move_d; exact rfl)
    | (apply Y_assign_d; exact rfl)
    | (apply Y_load_r1; exact rfl; exact (by first | with_reducible exact tc_str | with_reducible exact tc_int | with_reducible exact tc_kind | with_reducible exact tc_tok | with_reducible exact tc_u8s | with_reducible exact tc_toks | with_reducible exact tc_strs | with_reducible exact tc_bool | with_reducible exact tc_err | with_reducible exact tc_i64))
    | (apply Y_len_m; exact rfl; exact (by first | with_reducible exact et_toks | with_reducible exact et_strs | with_reducible exact et_u8s))
    | (apply Y_lss; exact rfl; exact rfl)
    | (apply Y_add; exact rfl; exact rfl)
    | (apply awp_condD; exact rfl; (intro hb); rotate_left; (intro hb); rotate_right)
    | refine awp_block ?_
    | refine awp_skip ?_
    | refine awp_ret ?_
    | refine awp_exit ?_
    | refine en_r ?_
    | refine en_e ?_
    | refine eb_n ?_
    | refine eb_r ?_
    | refine eb_e ?_
    | refine rpost_ret ?_
    | (apply res1; exact rfl)
  · omega
  · subst hb; exact bl_is (List.contains_iff_mem.2 (List.mem_of_getElem? hv)).symm
  · omega
  · refine ⟨i + 1, ⟨by omega, fun j hj => ?_⟩, by omega, Fits_mk (Le_cons rfl (Le_cons rfl (Le_cons rfl Le_nil))) Pre_nil rfl rfl⟩
    rcases Nat.lt_or_ge j i with h1 | h1
    · exact hi2 j h1
    · rw [show j = i by omega]; intro h2; exact hb (Option.some.inj (hv.symm.trans h2))
  · refine bl_is ?_
    symm; rw [isKey, ← Bool.not_eq_true]; intro h1
    obtain ⟨j, hj, h2⟩ := List.getElem_of_mem (List.contains_iff_mem.1 h1)
    exact hi2 j (by omega) (by rw [List.getElem?_eq_getElem hj, h2])
end Go.Proofs.YtamhkcnpocdfcaaGreatDoor
/- Numbers: sums, differences, products. -/
namespace Go.Proofs.YtamhkcnpocdfcaaGreatDoor
open Go.Sx
attribute [local irreducible] hasBody Program.underlying Ylds astep alex alexE alexD awp PCall FCall RCall athen ablock ajump rpost fpost

theorem i64_eq {a b : Int} (h : a = b) : D.val (.int .i64 a) = i64 b := by rw [h]
theorem u64_eq {a b : Int} (h : a = b) : D.val (.int .u64 a) = u64 b := by rw [h]
theorem tw1 : (2 : Int) ^ min (Int.toNat 1) IntKind.u64.bits = 2 := by decide
theorem tw2 : (2 : Int) ^ min (Int.toNat 1) IntKind.i64.bits = 2 := by decide

theorem wWrap_ok (n : Int) : PCall Tryz.prog 79 [i64 n] (i64 (W n)) := by
  refine pcall_of Tryz.func79 rfl Tryz.ntmps79 Tryz.results79 rfl ?_
  intro wb St0
  repeat' first
    | refine en_n ?_
    | refine awp_seq ?_
    | refine awp_region ?_
    | refine alex_nil ?_
    | refine w0 ?_
    | (apply Y_conv; exact rfl; (first | with_reducible exact si64 | with_reducible exact su64 | with_reducible exact su8 | with_reducible exact si32); (first | with_reducible exact ui64 | with_reducible exact uu64 | with_reducible exact uu8 | with_reducible exact ui32))
    | (apply Y_shl; exact rfl; exact rfl; exact (by decide))
    | (apply Y_shr; exact rfl; exact rfl; exact (by decide))
    | apply ay (hd := rfl)
    | (apply Y_move_d; exact rfl)
    | (apply Y_assign_d; exact rfl)
    | refine awp_ret ?_
    | refine rpost_ret ?_
    | (apply res1; exact rfl)
  refine i64_eq ?_
  rw [tw1, tw2, Int.fdiv_eq_ediv_of_nonneg _ (by decide), wrap_u64, wrap_u64, wrap_i64, W]
  omega

theorem back_ok (n : Int) (h : 0 ≤ n) : PCall Tryz.prog 72 [u64 n] (i64 (W n)) := by
  refine pcall_of Tryz.func72 rfl Tryz.ntmps72 Tryz.results72 rfl ?_
  intro wb St0
  have e : n.tmod 9223372036854775808 = n % 9223372036854775808 := Int.tmod_eq_emod_of_nonneg h
  repeat' first
    | refine en_n ?_
    | refine awp_seq ?_
    | refine awp_region ?_
    | refine alex_nil ?_
    | refine w0 ?_
    | (apply Y_conv; exact rfl; (first | with_reducible exact si64 | with_reducible exact su64 | with_reducible exact su8 | with_reducible exact si32); (first | with_reducible exact ui64 | with_reducible exact uu64 | with_reducible exact uu8 | with_reducible exact ui32))
    | (apply Y_subw (k := .u64); exact rfl; exact rfl)
    | (apply Y_subw (k := .i64); exact rfl; exact rfl)
    | (apply Y_rem; exact rfl; exact rfl; exact (by decide))
    | apply ay (hd := rfl)
    | (apply Y_move_d; exact rfl)
    | (apply Y_assign_d; exact rfl)
    | (apply Y_geq; exact rfl; exact rfl)
    | (apply awp_condD; exact rfl; (intro hb); rotate_left; (intro hb); rotate_right)
    | refine awp_skip ?_
    | refine awp_ret ?_
    | refine en_r ?_
    | refine rpost_ret ?_
    | (apply res1; exact rfl)
  · refine i64_eq ?_
    rw [e] at hb ⊢
    rw [wrap_u64, wrap_i64, wrap_i64, W]
    omega
  · refine i64_eq ?_
    rw [e] at hb ⊢
    rw [wrap_i64, W]
    omega

theorem rWrap_ok (n : Int) : PCall Tryz.prog 60 [i64 n] (i64 (W n)) := by
  refine pcall_of Tryz.func60 rfl Tryz.ntmps60 Tryz.results60 rfl ?_
  intro wb St0
  repeat' first
    | refine en_n ?_
    | refine awp_seq ?_
    | refine awp_region ?_
    | refine alex_nil ?_
    | refine w0 ?_
    | (apply Y_conv; exact rfl; (first | with_reducible exact si64 | with_reducible exact su64 | with_reducible exact su8 | with_reducible exact si32); (first | with_reducible exact ui64 | with_reducible exact uu64 | with_reducible exact uu8 | with_reducible exact ui32))
    | (refine Y_call hb_back (back_ok _ (by rw [wrap_u64]; omega)) (CoL_d rfl CoL_nil))
    | apply ay (hd := rfl)
    | (apply Y_move_d; exact rfl)
    | (apply Y_assign_d; exact rfl)
    | refine awp_ret ?_
    | refine rpost_ret ?_
    | (apply res1; exact rfl)
  refine i64_eq ?_
  rw [wrap_u64, W, W]
  omega

theorem take_sum {L : List Int} {i : Nat} {v : Int} (h : L[i]? = some v) : (L.take (i + 1)).sum = (L.take i).sum + v := by
  rw [List.take_add_one, h, List.sum_append]; simp

theorem W_u64 (x : Int) : W (IntKind.u64.wrap x) = W x := by rw [wrap_u64, W, W]; omega
end Go.Proofs.YtamhkcnpocdfcaaGreatDoor
/- Numbers: numbers as texts. -/
namespace Go.Proofs.YtamhkcnpocdfcaaGreatDoor
open Go.Sx
attribute [local irreducible] hasBody Program.underlying Ylds astep alex alexE alexD awp PCall FCall RCall athen ablock ajump rpost fpost

/-! ### digits -/
theorem digit_ofNat {k : Nat} (h : k < 10) : (UInt8.ofNat (48 + k)).toNat = 48 + k := by
  rw [UInt8.toNat_ofNat']; omega
theorem digs_mem (u : Nat) : ∀ d ∈ Lib.decDigits u, 48 ≤ d.toNat ∧ d.toNat ≤ 57 := by
  induction u using Nat.strongRecOn with
  | _ u ih =>
    intro d hd
    rw [Lib.decDigits] at hd
    split at hd
    · rename_i h
      rw [List.mem_singleton] at hd
      rw [hd, digit_ofNat h]; omega
    · rename_i h
      rcases List.mem_append.1 hd with hd | hd
      · exact ih (u / 10) (by omega) d hd
      · rw [List.mem_singleton] at hd
        rw [hd, digit_ofNat (Nat.mod_lt _ (by decide))]; omega
theorem digs_ne (u : Nat) : Lib.decDigits u ≠ [] := by
  rw [Lib.decDigits]; split <;> simp
theorem digs_cons (u : Nat) : ∃ c r, Lib.decDigits u = c :: r ∧ 48 ≤ c.toNat ∧ c.toNat ≤ 57 := by
  cases h : Lib.decDigits u with
  | nil => exact absurd h (digs_ne u)
  | cons c r => exact ⟨c, r, rfl, digs_mem u c (by rw [h]; simp)⟩
theorem digs_len (u : Nat) (h : u < 18446744073709551616) : (Lib.decDigits u).length ≤ 20 := by
  rw [Lib.decDigits_length]; exact Lib.nDigits_le20 u h

/-- the text of a number of the language -/
def shw (n : Int) : List UInt8 := if n < 0 then 126 :: Lib.decDigits n.natAbs else Lib.decDigits n.natAbs

theorem shw_eq (n : Int) : Lib.replace (Lib.itoa n) [45] [126] 1 = shw n := by
  rw [Lib.replace, if_neg (by decide)]
  unfold Lib.itoa shw
  split
  · rename_i h
    have h1 : Lib.replaceNum (45 :: Lib.decDigits n.natAbs) [45] 1 = 1 := by
      rw [Lib.replaceNum, Lib.count_cons_eq, if_neg (by omega)]; rfl
    rw [h1, Lib.replaceK_hit [45] [126] 0 _ 0 (by rw [Lib.index]; rfl)]
    simp [Lib.replaceK]
  · rename_i h
    have h2 : Lib.count (Lib.decDigits n.toNat) [45] = 0 := by
      rw [Lib.count_one, List.count_eq_zero]
      intro hm
      have := digs_mem _ _ hm
      exact absurd this.1 (by decide)
    have h1 : Lib.replaceNum (Lib.decDigits n.toNat) [45] 1 = 0 := by
      rw [Lib.replaceNum, h2, if_pos (by omega)]
    rw [h1, Lib.replaceK, show n.toNat = n.natAbs by omega]
theorem shw_len (n : Int) (h : -9223372036854775808 ≤ n ∧ n ≤ 9223372036854775807) : (shw n).length ≤ 21 := by
  have := digs_len n.natAbs (by omega)
  unfold shw; split
  · rw [List.length_cons]; omega
  · omega

theorem str_eq {a b : List UInt8} (h : a = b) : str a = str b := by rw [h]

/-! ### the document's text -/
theorem show_step (U m : Nat) (s : List UInt8) (hi : (s = [] ∧ m = U) ∨ (s ≠ [] ∧ m = 0 ∧ s = Lib.decDigits U) ∨ (s ≠ [] ∧ 0 < m ∧ m ≤ U ∧ Lib.decDigits m ++ s = Lib.decDigits U)) (hc : s = [] ∨ 0 < m) :
    (UInt8.ofNat (48 + m % 10) :: s ≠ [] ∧ m / 10 = 0 ∧ UInt8.ofNat (48 + m % 10) :: s = Lib.decDigits U) ∨
      (UInt8.ofNat (48 + m % 10) :: s ≠ [] ∧ 0 < m / 10 ∧ m / 10 ≤ U ∧ Lib.decDigits (m / 10) ++ UInt8.ofNat (48 + m % 10) :: s = Lib.decDigits U) := by
  have e : Lib.decDigits m ++ s = Lib.decDigits U ∧ m ≤ U := by
    rcases hi with ⟨h1, h2⟩ | ⟨h1, h2, _⟩ | ⟨_, _, h3, h4⟩
    · rw [h1, h2]; simp
    · rcases hc with hc | hc
      · exact absurd hc h1
      · omega
    · exact ⟨h4, h3⟩
  obtain ⟨e, hm⟩ := e
  by_cases h10 : m < 10
  · rw [Lib.decDigits, dif_pos h10] at e
    refine .inl ⟨by simp, by omega, ?_⟩
    rw [show m % 10 = m by omega, ← e]; rfl
  · rw [Lib.decDigits, dif_neg h10] at e
    refine .inr ⟨by simp, by omega, by omega, ?_⟩
    rw [← e, List.append_assoc]; rfl
def smu (p : Nat × List UInt8) : Nat := match p.2 with | [] => p.1 + 1 | _ => p.1
theorem show_mu (m : Nat) (c : UInt8) (s : List UInt8) (hc : s = [] ∨ 0 < m) : smu (m / 10, c :: s) < smu (m, s) := by
  cases s with
  | nil => show m / 10 < m + 1; omega
  | cons x r =>
    show m / 10 < m
    rcases hc with hc | hc
    · cases hc
    · omega
theorem show_byte (m : Nat) : IntKind.u8.wrap (IntKind.u64.wrap (48 + (m : Int).tmod 10)) = ((48 + m % 10 : Nat) : Int) := by
  rw [show (m : Int).tmod 10 = ((m % 10 : Nat) : Int) from rfl, wrap_u8, wrap_u64]; omega
theorem show_quo (m : Nat) (h : m < 18446744073709551616) : IntKind.u64.wrap ((m : Int).tdiv 10) = ((m / 10 : Nat) : Int) := by
  rw [show (m : Int).tdiv 10 = ((m / 10 : Nat) : Int) from rfl, wrap_u64]; omega

end Go.Proofs.YtamhkcnpocdfcaaGreatDoor
/- Numbers: the number of a text, plainly. -/
namespace Go.Proofs.YtamhkcnpocdfcaaGreatDoor
open Go.Sx

def isDig (c : UInt8) : Bool := decide (48 ≤ c.toNat) && decide (c.toNat ≤ 57)
def dvl (l : List UInt8) : Nat := l.foldl (fun m c => 10 * m + (c.toNat - 48)) 0
theorem dvl_snoc (l : List UInt8) (c : UInt8) : dvl (l ++ [c]) = 10 * dvl l + (c.toNat - 48) := by
  unfold dvl; rw [List.foldl_append]; rfl
theorem dvl_take {l : List UInt8} {i : Nat} (h : i < l.length) : dvl (l.take (i + 1)) = 10 * dvl (l.take i) + ((l.getD i 0).toNat - 48) := by
  rw [List.take_add_one, List.getElem?_eq_getElem h, Option.toList_some, dvl_snoc, List.getD_eq_getElem?_getD, List.getElem?_eq_getElem h]; rfl
theorem fold_le (l : List UInt8) : ∀ m : Nat, m ≤ l.foldl (fun m c => 10 * m + (c.toNat - 48)) m := by
  induction l with
  | nil => intro m; exact Nat.le_refl _
  | cons c l ih => intro m; exact Nat.le_trans (by omega) (ih (10 * m + (c.toNat - 48)))
theorem dvl_more {l : List UInt8} {i : Nat} (h : i < l.length) : 10 * dvl (l.take i) ≤ dvl l := by
  have e : dvl l = (l.drop (i + 1)).foldl (fun m c => 10 * m + (c.toNat - 48)) (dvl (l.take (i + 1))) := by
    conv => lhs; rw [← List.take_append_drop (i + 1) l]
    unfold dvl; rw [List.foldl_append]
  have h1 := fold_le (l.drop (i + 1)) (dvl (l.take (i + 1)))
  rw [← e, dvl_take h] at h1
  omega
theorem dvl_lt : ∀ (n : Nat) (l : List UInt8), l.length = n → l.all isDig = true → dvl l < 10 ^ n := by
  intro n
  induction n with
  | zero => intro l h _; rw [List.eq_nil_of_length_eq_zero h]; decide
  | succ n ih =>
    intro l h ha
    have hne : l ≠ [] := by intro e; rw [e] at h; cases h
    have e := List.dropLast_concat_getLast hne
    have hall : (l.dropLast ++ [l.getLast hne]).all isDig = true := by rw [e]; exact ha
    rw [List.all_append, Bool.and_eq_true] at hall
    have h1 := ih l.dropLast (by rw [List.length_dropLast]; omega) hall.1
    have h2 : isDig (l.getLast hne) = true := by simpa using hall.2
    simp only [isDig, Bool.and_eq_true, decide_eq_true_eq] at h2
    rw [← e, dvl_snoc, Nat.pow_succ]
    omega
theorem digs_all (u : Nat) : (Lib.decDigits u).all isDig = true := List.all_eq_true.2 fun c hc => by
  have := digs_mem u c hc
  simp [isDig, this.1, this.2]
theorem digs_dvl (u : Nat) : dvl (Lib.decDigits u) = u := by
  induction u using Nat.strongRecOn with
  | _ u ih =>
    rw [Lib.decDigits]
    split
    · rename_i h
      show dvl ([] ++ [_]) = _
      rw [dvl_snoc, digit_ofNat h]; simp [dvl]
    · rename_i h
      rw [dvl_snoc, ih (u / 10) (by omega), digit_ofNat (Nat.mod_lt _ (by decide))]
      omega

/-- the digits of a text; its number -/
def dg (s : List UInt8) : List UInt8 := Lib.trimPrefix s [126]
def rdS (s : List UInt8) : Int := if Lib.hasPrefix s [126] then -(dvl (dg s) : Int) else (dvl (dg s) : Int)
def rdOk (s : List UInt8) : Bool := (dg s).all isDig && decide (-4611686018427387904 ≤ rdS s) && decide (rdS s ≤ 4611686018427387903) && decide (shw (rdS s) = s)
def rdN (s : List UInt8) : Int := if rdOk s then rdS s else 0
def rdE (s : List UInt8) : Int := if rdOk s then 0 else 11

theorem pre_cons (l : List UInt8) : Lib.hasPrefix (126 :: l) [126] = true := by simp [Lib.hasPrefix, List.isPrefixOf]
theorem dg_cons (l : List UInt8) : dg (126 :: l) = l := by rw [dg, Lib.trimPrefix, if_pos (pre_cons l)]; rfl
theorem pre_digs (u : Nat) : Lib.hasPrefix (Lib.decDigits u) [126] = false := by
  obtain ⟨c, r, h, h1, h2⟩ := digs_cons u
  rw [h, Lib.hasPrefix, List.isPrefixOf]
  have : (126 == c) = false := by
    rw [beq_eq_false_iff_ne]; rintro rfl; exact absurd h2 (by decide)
  rw [this]; rfl
theorem dg_digs (u : Nat) : dg (Lib.decDigits u) = Lib.decDigits u := by rw [dg, Lib.trimPrefix, pre_digs]; rfl

theorem rd_shw (n : Int) (h : -4611686018427387904 ≤ n ∧ n ≤ 4611686018427387903) : rdOk (shw n) = true ∧ rdS (shw n) = n := by
  have e : rdS (shw n) = n ∧ (dg (shw n)).all isDig = true := by
    unfold shw rdS
    split
    · rename_i h0
      rw [pre_cons, dg_cons, if_pos rfl, digs_dvl]
      exact ⟨by omega, digs_all _⟩
    · rename_i h0
      rw [pre_digs, dg_digs, if_neg (by decide), digs_dvl]
      exact ⟨by omega, digs_all _⟩
  refine ⟨?_, e.1⟩
  rw [rdOk, e.1, e.2, decide_eq_true h.1, decide_eq_true h.2]; simp

/-- too many digits -/
theorem rd_long {s : List UInt8} (h : rdOk s = true) : (dg s).length ≤ 19 ∧ dg s ≠ [] := by
  simp only [rdOk, Bool.and_eq_true, decide_eq_true_eq] at h
  obtain ⟨⟨⟨_, h1⟩, h2⟩, h3⟩ := h
  have hd : dg s = Lib.decDigits (rdS s).natAbs := by
    conv => lhs; rw [← h3]
    unfold shw
    split
    · rw [dg_cons]
    · rw [dg_digs]
  rw [hd]
  refine ⟨?_, digs_ne _⟩
  rw [Lib.decDigits_length]
  have h4 : (rdS s).natAbs ≤ 4611686018427387904 := by omega
  rcases Nat.lt_or_ge (rdS s).natAbs (10 ^ 18) with h5 | h5
  · rcases Nat.lt_or_ge (Lib.nDigits (rdS s).natAbs) 20 with h6 | h6
    · omega
    · exfalso
      have := Lib.nDigits_le20 (rdS s).natAbs (by omega)
      have h7 : Lib.nDigits (rdS s).natAbs = 20 := by omega
      have hp : ∀ k u : Nat, u < 10 ^ (k + 1) → Lib.nDigits u ≤ k + 1 := by
        intro k
        induction k with
        | zero => intro u hu; rw [Lib.nDigits_small (by omega)]; exact Nat.le_refl _
        | succ k ih =>
          intro u hu
          by_cases h10 : u < 10
          · rw [Lib.nDigits_small h10]; omega
          · rw [Lib.nDigits_big h10]
            have := ih (u / 10) (by rw [Nat.pow_succ] at hu; omega)
            omega
      have := hp 17 _ h5
      omega
  · rw [Lib.nDigits_unique 18 _ h5 (by have : (10 : Nat) ^ (18 + 1) = 10000000000000000000 := by decide
                                       rw [this]; omega)]
    exact Nat.le_refl _
end Go.Proofs.YtamhkcnpocdfcaaGreatDoor
/- Numbers: the walks of both Reads. -/
namespace Go.Proofs.YtamhkcnpocdfcaaGreatDoor
open Go.Sx
attribute [local irreducible] hasBody Program.underlying Ylds astep alex alexE alexD awp PCall FCall RCall athen ablock ajump rpost fpost

theorem rdN_no {s : List UInt8} (h : rdOk s = false) : rdN s = 0 := by rw [rdN, h]; rfl
theorem rdE_no {s : List UInt8} (h : rdOk s = false) : rdE s = 11 := by rw [rdE, h]; rfl
theorem rdN_yes {s : List UInt8} (h : rdOk s = true) : rdN s = rdS s := by rw [rdN, h]; rfl
theorem rdE_yes {s : List UInt8} (h : rdOk s = true) : rdE s = 0 := by rw [rdE, h]; rfl

theorem getBw {l : List UInt8} {i : Nat} (h : i < (⟨l.toArray⟩ : ByteArray).size) : (⟨l.toArray⟩ : ByteArray)[i]'h = l.getD i 0 := by
  have hlt : i < l.length := by rw [str_size] at h; exact h
  rw [List.getD_eq_getElem?_getD, List.getElem?_eq_getElem hlt]; rfl

/-- what the range hands over -/
theorem dec_dig {l : List UInt8} {i : Nat} (h : i < l.length) (h1 : 48 ≤ ((Utf8.decode ⟨l.toArray⟩ i).1 : Int)) (h2 : ((Utf8.decode ⟨l.toArray⟩ i).1 : Int) ≤ 57) :
    (Utf8.decode ⟨l.toArray⟩ i).1 = (l.getD i 0).toNat ∧ (Utf8.decode ⟨l.toArray⟩ i).2 = 1 ∧ isDig (l.getD i 0) = true := by
  have hs : i < (⟨l.toArray⟩ : ByteArray).size := by rw [str_size]; exact h
  rcases Nat.lt_or_ge ((⟨l.toArray⟩ : ByteArray)[i]'hs).toNat 128 with h3 | h3
  · have e := decode_ascii ⟨l.toArray⟩ i hs h3
    rw [getBw hs] at e
    rw [e] at h1 h2 ⊢
    dsimp only at h1 h2
    refine ⟨rfl, rfl, ?_⟩
    simp only [isDig, Bool.and_eq_true, decide_eq_true_eq]; omega
  · have := (decode_high ⟨l.toArray⟩ i hs h3).1
    omega
theorem dec_no {l : List UInt8} {i : Nat} (h : i < l.length) (h1 : ((Utf8.decode ⟨l.toArray⟩ i).1 : Int) < 48 ∨ ((Utf8.decode ⟨l.toArray⟩ i).1 : Int) > 57) : isDig (l.getD i 0) = false := by
  have hs : i < (⟨l.toArray⟩ : ByteArray).size := by rw [str_size]; exact h
  cases hd : isDig (l.getD i 0) with
  | false => rfl
  | true =>
    simp only [isDig, Bool.and_eq_true, decide_eq_true_eq] at hd
    have e := decode_ascii ⟨l.toArray⟩ i hs (by rw [getBw hs]; omega)
    rw [getBw hs] at e
    rw [e] at h1
    dsimp only at h1
    omega
theorem all_no {l : List UInt8} {i : Nat} (h : i < l.length) (hd : isDig (l.getD i 0) = false) : l.all isDig = false := by
  cases ha : l.all isDig with
  | false => rfl
  | true =>
    have := List.all_eq_true.1 ha (l.getD i 0) (by rw [List.getD_eq_getElem?_getD, List.getElem?_eq_getElem h]; exact List.getElem_mem h)
    rw [hd] at this; cases this
theorem rd_nodig {s : List UInt8} (h : (dg s).all isDig = false) : rdOk s = false := by rw [rdOk, h]; rfl
theorem rd_great {s : List UInt8} (h : 4611686018427387904 < dvl (dg s)) : rdOk s = false := by
  cases hr : rdOk s with
  | false => rfl
  | true =>
    simp only [rdOk, Bool.and_eq_true, decide_eq_true_eq] at hr
    obtain ⟨⟨⟨_, h1⟩, h2⟩, _⟩ := hr
    unfold rdS at h1 h2
    by_cases hp : Lib.hasPrefix s [126] = true
    · rw [if_pos hp] at h1; omega
    · rw [if_neg hp] at h2; omega
theorem err1 {s : List UInt8} {i : Nat} (h : i < (⟨(dg s).toArray⟩ : ByteArray).size) (h1 : ((Utf8.decode ⟨(dg s).toArray⟩ i).1 : Int) < 48 ∨ ((Utf8.decode ⟨(dg s).toArray⟩ i).1 : Int) > 57) : rdOk s = false := by
  rw [str_size] at h
  exact rd_nodig (all_no h (dec_no h h1))
theorem err2 {s : List UInt8} {i : Nat} (h : i < (⟨(dg s).toArray⟩ : ByteArray).size) (h1 : -((dvl ((dg s).take i) : Nat) : Int) < -461168601842738790) : rdOk s = false := by
  rw [str_size] at h
  have := dvl_more h
  exact rd_great (by omega)
theorem end_take {s : List UInt8} {i : Nat} (h : ¬ i < (⟨(dg s).toArray⟩ : ByteArray).size) : (dg s).take i = dg s := by
  rw [str_size] at h
  exact List.take_of_length_le (by omega)
theorem val_pos {s : List UInt8} {i : Nat} (h : ¬ i < (⟨(dg s).toArray⟩ : ByteArray).size) (hp : (!Lib.hasPrefix s [126]) = true) (h3 : dvl ((dg s).take i) ≤ 4611686018427387909) : IntKind.i64.wrap (0 - -((dvl ((dg s).take i) : Nat) : Int)) = rdS s := by
  have hp : Lib.hasPrefix s [126] = false := by simpa using hp
  rw [rdS, hp, wrap_i64, if_neg (by decide)]
  rw [end_take h] at h3 ⊢
  omega
theorem val_neg {s : List UInt8} {i : Nat} (h : ¬ i < (⟨(dg s).toArray⟩ : ByteArray).size) (hp : (!Lib.hasPrefix s [126]) = false) : -((dvl ((dg s).take i) : Nat) : Int) = rdS s := by
  have hp : Lib.hasPrefix s [126] = true := by simpa using hp
  rw [rdS, hp, if_pos rfl, end_take h]
theorem no_gt {s : List UInt8} (h : rdS s > 4611686018427387903) : rdOk s = false := by
  rw [rdOk, decide_eq_false (show ¬ rdS s ≤ 4611686018427387903 by omega)]; simp
theorem no_lt {s : List UInt8} (h : rdS s < -4611686018427387904) : rdOk s = false := by
  rw [rdOk, decide_eq_false (show ¬ -4611686018427387904 ≤ rdS s by omega)]; simp
theorem no_ne {s : List UInt8} (h1 : ¬ rdS s > 4611686018427387903) (h2 : ¬ rdS s < -4611686018427387904) (h : shw (W (rdS s)) ≠ s) : rdOk s = false := by
  rw [W_id (by omega)] at h
  rw [rdOk, decide_eq_false h]; simp
theorem yes_ {s : List UInt8} {i : Nat} (h0 : ¬ i < (⟨(dg s).toArray⟩ : ByteArray).size) (ha : ((dg s).take i).all isDig = true) (h1 : ¬ rdS s > 4611686018427387903) (h2 : ¬ rdS s < -4611686018427387904) (h : ¬ shw (W (rdS s)) ≠ s) : rdOk s = true := by
  rw [W_id (by omega)] at h
  rw [end_take h0] at ha
  rw [rdOk, ha, decide_eq_true (show rdS s ≤ 4611686018427387903 by omega), decide_eq_true (show -4611686018427387904 ≤ rdS s by omega), decide_eq_true (Decidable.not_not.1 h)]; rfl

end Go.Proofs.YtamhkcnpocdfcaaGreatDoor
/- Numbers: the walk of the document's Read. (Printed by genG.py.) -/
namespace Go.Proofs.YtamhkcnpocdfcaaGreatDoor
open Go.Sx
attribute [local irreducible] hasBody Program.underlying Ylds astep alex alexE alexD awp PCall FCall RCall athen ablock ajump rpost fpost

theorem s_cons {s : List UInt8} (h1 : (s.length : Int) > 0) (h2 : ((s.getD (Int.toNat 0) 0).toNat : Int) = 126) : ∃ r, s = 126 :: r := by
  cases s with
  | nil => simp at h1
  | cons c r =>
    refine ⟨r, ?_⟩
    have h3 : c.toNat = 126 := by
      have : (c.toNat : Int) = 126 := h2
      omega
    have : c = 126 := UInt8.toNat_inj.1 h3
    rw [this]
theorem dgA {s : List UInt8} (h1 : (s.length : Int) > 0) (h2 : ((s.getD (Int.toNat 0) 0).toNat : Int) = 126) : s.drop (Int.toNat 1) = dg s ∧ Lib.hasPrefix s [126] = true ∧ (dg s).length < s.length := by
  obtain ⟨r, rfl⟩ := s_cons h1 h2
  rw [dg_cons]
  exact ⟨rfl, pre_cons r, by simp⟩
theorem dgB {s : List UInt8} (h2 : ¬ ((s.getD (Int.toNat 0) 0).toNat : Int) = 126) : s = dg s ∧ Lib.hasPrefix s [126] = false := by
  have hp : Lib.hasPrefix s [126] = false := by
    cases s with
    | nil => rfl
    | cons c r =>
      have : (126 == c) = false := by
        rw [beq_eq_false_iff_ne]; rintro rfl; exact h2 rfl
      rw [Lib.hasPrefix, List.isPrefixOf, this]; rfl
  refine ⟨?_, hp⟩
  rw [dg, Lib.trimPrefix, hp]; rfl
theorem dgC {s : List UInt8} (h1 : ¬ (s.length : Int) > 0) : s = dg s ∧ Lib.hasPrefix s [126] = false := by
  have : s = [] := List.eq_nil_of_length_eq_zero (by omega)
  subst this; exact ⟨rfl, rfl⟩
theorem rd_short {s : List UInt8} (h : dg s = []) : rdOk s = false := by
  cases hr : rdOk s with
  | false => rfl
  | true => exact absurd h (rd_long hr).2
theorem rd_over {s : List UInt8} (h : ((dg s).length : Int) > 19) : rdOk s = false := by
  cases hr : rdOk s with
  | false => rfl
  | true => have := (rd_long hr).1; omega
theorem bl_eq {a b : Bool} (h : b = a) : D.val (.bool a) = bl b := by rw [h]
theorem errD {s : List UInt8} {i : Nat} (h : (i : Int) < ((dg s).length : Int)) (h1 : (((dg s).getD (Int.toNat (i : Int)) 0).toNat : Int) < 48 ∨ (((dg s).getD (Int.toNat (i : Int)) 0).toNat : Int) > 57) : rdOk s = false := by
  refine rd_nodig (all_no (i := i) (by omega) ?_)
  have h1 : (((dg s).getD i 0).toNat : Int) < 48 ∨ (((dg s).getD i 0).toNat : Int) > 57 := h1
  cases hd : isDig ((dg s).getD i 0) with
  | false => rfl
  | true =>
    simp only [isDig, Bool.and_eq_true, decide_eq_true_eq] at hd
    omega
theorem end_t {s : List UInt8} {i : Nat} (h : ¬ (i : Int) < ((dg s).length : Int)) : (dg s).take i = dg s := List.take_of_length_le (by omega)
theorem great_t {s : List UInt8} {i : Nat} (h : ¬ (i : Int) < ((dg s).length : Int)) (h1 : ((dvl ((dg s).take i) : Nat) : Int) > 4611686018427387904) : rdOk s = false := by
  rw [end_t h] at h1; exact rd_great (by omega)
theorem neg_t {s : List UInt8} {i : Nat} (hp : Lib.hasPrefix s [126] = true) (h : ¬ (i : Int) < ((dg s).length : Int)) (h1 : ¬ ((dvl ((dg s).take i) : Nat) : Int) > 4611686018427387904) :
    W (IntKind.u64.wrap (0 - ((dvl ((dg s).take i) : Nat) : Int))) = rdS s ∧ ¬ rdS s > 4611686018427387903 ∧ ¬ rdS s < -4611686018427387904 := by
  rw [end_t h] at h1 ⊢
  rw [W_u64, rdS, hp, if_pos rfl, W_id (by omega)]
  omega
theorem pos_no {s : List UInt8} {i : Nat} (hp : Lib.hasPrefix s [126] = false) (h : ¬ (i : Int) < ((dg s).length : Int)) (h1 : ¬ ((dvl ((dg s).take i) : Nat) : Int) > 4611686018427387904)
    (h2 : shw (W (W ((dvl ((dg s).take i) : Nat) : Int))) ≠ s) : rdOk s = false := by
  rw [end_t h] at h1 h2
  have e : rdS s = (dvl (dg s) : Int) := by rw [rdS, hp, if_neg (by decide)]
  rcases Nat.lt_or_ge (dvl (dg s)) 4611686018427387904 with h3 | h3
  · rw [W_W, ← e] at h2
    exact no_ne (by omega) (by omega) h2
  · exact no_gt (by omega)
theorem pos_ok {s : List UInt8} {i : Nat} (hp : Lib.hasPrefix s [126] = false) (h : ¬ (i : Int) < ((dg s).length : Int)) (ha : ((dg s).take i).all isDig = true) (h1 : ¬ ((dvl ((dg s).take i) : Nat) : Int) > 4611686018427387904)
    (h2 : ¬ shw (W (W ((dvl ((dg s).take i) : Nat) : Int))) ≠ s) : rdOk s = true ∧ W ((dvl ((dg s).take i) : Nat) : Int) = rdS s := by
  have hs : ¬ i < (⟨(dg s).toArray⟩ : ByteArray).size := by rw [str_size]; omega
  have et := end_t h
  rw [et] at h1 h2 ⊢
  have e : rdS s = (dvl (dg s) : Int) := by rw [rdS, hp, if_neg (by decide)]
  rcases Nat.lt_or_ge (dvl (dg s)) 4611686018427387904 with h3 | h3
  · rw [W_W, ← e] at h2
    exact ⟨yes_ hs ha (by omega) (by omega) h2, by rw [← e, W_id (by omega)]⟩
  · exfalso
    have h4 : W (W (dvl (dg s) : Int)) = -4611686018427387904 := by
      have : (dvl (dg s) : Int) = 4611686018427387904 := by omega
      rw [this]; decide
    rw [h4] at h2
    have h2 := Decidable.not_not.1 h2
    rw [shw, if_pos (by decide)] at h2
    rw [← h2, pre_cons] at hp
    cases hp

end Go.Proofs.YtamhkcnpocdfcaaGreatDoor
/- The token statements: may a token be? -/
namespace Go.Proofs.YtamhkcnpocdfcaaGreatDoor
open Go.Sx
attribute [local irreducible] hasBody Program.underlying Ylds astep alex alexE alexD awp PCall FCall RCall MCall QCall athen ablock ajump rpost fpost mpost

def namedF (p : UInt8 → Bool) (s : List UInt8) : Bool := allF isInner s && p (s.getD 0 0) && !isKey s
def rightF (t : Tk) : Bool :=
  if t.pos < 0 then false
  else if t.kind = 1 then decide (t.num = 0) && namedF isSmall t.text
  else if t.kind = 2 then decide (t.num = 0) && namedF isGreat t.text
  else if t.kind = 3 then decide (t.text = []) && decide (W t.num = t.num)
  else if t.kind = 4 then decide (t.num = 0) && decide (t.text.length ≤ 200)
  else if t.kind = 5 then decide (t.num = 0) && allF isSign t.text && !isKey t.text
  else if t.kind = 6 then decide (t.num = 0) && isKey t.text
  else false
theorem inner_low (c : UInt8) (h : c.toNat > 126) : isInner c = false := by
  simp only [isInner, isSmall, isGreat, isDigit, u8_eq, ← Bool.decide_or, show ((95 : UInt8).toNat : Int) = 95 from rfl, show ((39 : UInt8).toNat : Int) = 39 from rfl]
  rw [decide_eq_false_iff_not]; omega
theorem sign_low (c : UInt8) (h : c.toNat > 126) : isSign c = false := by
  refine sign_miss fun j hj e => ?_
  subst e
  have : ∀ k, k < 16 → (signL.getD k 0).toNat ≤ 126 := by decide
  have := this j hj
  omega
theorem all_long {p : UInt8 → Bool} {s : List UInt8} (h : allF p s = true) : 0 < s.length := by
  cases s with
  | nil => simp [allF] at h
  | cons => simp

abbrev Tk.cells (t : Tk) : List SV := [.d (i64 t.kind), .d (str t.text), .d (i64 t.num), .d (i64 t.pos)]

theorem Right1_ok (t : Tk) (f : FuncId) (p : UInt8 → Bool) (hb : hasBody Tryz.prog f = true) (hp : ∀ c, PCall Tryz.prog f [u8 c] (bl (p c))) :
    QCall Tryz.prog 73 [.clo f [], .ptr 0 0] [.box t.cells] (bl (namedF p t.text)) := by
  have hbf := hb; clear hb
  refine qcall_of Tryz.func73 rfl Tryz.ntmps73 Tryz.results73 rfl ?_
  intro wb St0
  repeat' first
    | refine en_n ?_
    | refine awp_seq ?_
    | refine awp_region ?_
    | refine alex_nil ?_
    | refine w0 ?_
    | (apply k1u (hd := rfl); exact rfl; exact rfl)
    | (apply Y_move_clo; exact rfl)
    | (apply Y_pclo (hb := hbf) (hc := hp (t.text.getD 0 0)); exact rfl)
    | (refine Y_qcall [] [] rfl rfl hb_all (all_ok _ isInner hb_inner inner_ok inner_low t.text) rfl ?_ rfl (by decide) rfl rfl rfl rfl; (repeat (refine SArgs_cons rfl ?_)); exact SArgs_nil)
    | (apply Y_call (hb := hb_Key) (hc := Key_ok t.text))
    | apply ay (hd := rfl)
    | (apply Y_move_d; exact rfl)
    | (apply Y_assign_d; exact rfl)
    | (apply Y_not; exact rfl)
    | (apply Y_pick_t; exact rfl; exact rfl)
    | (apply Y_pick_f; exact rfl; exact rfl)
    | (apply Y_field_p; exact rfl; exact (by first | with_reducible exact fo_0 | with_reducible exact fo_1 | with_reducible exact fo_2 | with_reducible exact fo_3))
    | (apply Y_load_p; exact rfl; exact (by first | with_reducible exact tc_str | with_reducible exact tc_int | with_reducible exact tc_kind | with_reducible exact tc_tok | with_reducible exact tc_u8s | with_reducible exact tc_toks | with_reducible exact tc_strs | with_reducible exact tc_bool | with_reducible exact tc_err | with_reducible exact tc_i64); exact rfl; exact rfl)
    | (apply w1; exact rfl; exact rfl)
    | (apply g1; exact rfl; exact rfl; (intro hb); rotate_left; (intro hb); rotate_right)
    | refine awp_ret ?_
    | refine rpost_ret ?_
    | (apply res1; exact rfl)
    | exact CoL_nil
    | refine CoL_d rfl ?_
  · have := all_long hb
    exact Y_idx_l (i := 0) rfl rfl (by with_reducible exact ustr) ⟨by omega, by omega⟩
  all_goals exact bl_is (by simp only [namedF, *]; first | rfl | simp)

set_option maxHeartbeats 4000000 in
theorem Right_ok (t : Tk) : PCall Tryz.prog 63 [t.av] (bl (rightF t)) := by
  refine pcall_of Tryz.func63 rfl Tryz.ntmps63 Tryz.results63 rfl ?_
  intro wb St0
  repeat' first
    | refine en_n ?_
    | refine awp_seq ?_
    | refine awp_region ?_
    | refine alex_nil ?_
    | refine w0 ?_
    | (apply kU (hd := rfl); exact rfl; exact rfl)
    | (apply k1u (hd := rfl); exact rfl; exact rfl)
    | (apply k0u (hd := rfl); exact rfl; exact rfl)
    | (apply Y_len_l; exact rfl; with_reducible exact ustr)
    | (apply Y_neqs; exact rfl; exact rfl)
    | (refine Y_qcall [0] [0] rfl rfl hb_Right1 (Right1_ok t _ isSmall hb_small small_ok) rfl ?_ rfl (by decide) rfl rfl rfl rfl; (repeat (refine SArgs_cons rfl ?_)); exact SArgs_nil)
    | (refine Y_qcall [0] [0] rfl rfl hb_Right1 (Right1_ok t _ isGreat hb_great great_ok) rfl ?_ rfl (by decide) rfl rfl rfl rfl; (repeat (refine SArgs_cons rfl ?_)); exact SArgs_nil)
    | (refine Y_qcall [] [] rfl rfl hb_all (all_ok _ isSign hb_sign sign_ok sign_low t.text) rfl ?_ rfl (by decide) rfl rfl rfl rfl; (repeat (refine SArgs_cons rfl ?_)); exact SArgs_nil)
    | (apply Y_call (hb := hb_Key) (hc := Key_ok t.text))
    | (refine Y_call hb_wWrap (wWrap_ok t.num) (CoL_d rfl CoL_nil))
    | (apply aBox (hd := rfl) (hro := rfl); exact rfl; exact rfl)
    | apply ay (hd := rfl)
    | (apply Y_move_d; exact rfl)
    | (apply Y_assign_d; exact rfl)
    | (apply Y_lss; exact rfl; exact rfl)
    | (apply Y_leq; exact rfl; exact rfl)
    | (apply Y_eql; exact rfl; exact rfl)
    | (apply Y_neq; exact rfl; exact rfl)
    | (apply Y_not; exact rfl)
    | (apply Y_pick_t; exact rfl; exact rfl)
    | (apply Y_pick_f; exact rfl; exact rfl)
    | (apply Y_move_clo; exact rfl)
    | (apply Y_assign_clo; exact rfl)
    | (apply Y_field_p; exact rfl; exact (by first | with_reducible exact fo_0 | with_reducible exact fo_1 | with_reducible exact fo_2 | with_reducible exact fo_3))
    | (apply Y_load_p; exact rfl; exact (by first | with_reducible exact tc_str | with_reducible exact tc_int | with_reducible exact tc_kind | with_reducible exact tc_tok | with_reducible exact tc_u8s | with_reducible exact tc_toks | with_reducible exact tc_strs | with_reducible exact tc_bool | with_reducible exact tc_err | with_reducible exact tc_i64); exact rfl; exact rfl)
    | (apply Y_mkf; exact rfl)
    | (apply w1; exact rfl; exact rfl)
    | (apply gD; exact rfl; exact rfl; (intro hb); rotate_left; (intro hb); rotate_right)
    | (apply g1; exact rfl; exact rfl; (intro hb); rotate_left; (intro hb); rotate_right)
    | (apply awp_condD; exact rfl; (intro hb); rotate_left; (intro hb); rotate_right)
    | (apply awp_condT; exact rfl)
    | (apply awp_condF; exact rfl)
    | refine awp_block ?_
    | refine awp_skip ?_
    | refine awp_ret ?_
    | refine awp_draw (by kernel_rfl) (by kernel_rfl) ?_
    | refine en_r ?_
    | refine eb_n ?_
    | refine eb_r ?_
    | refine rpost_ret ?_
    | (apply res1; exact rfl)
    | exact CoL_nil
    | refine CoL_d rfl ?_
  all_goals exact bl_is (by simp_all [rightF] <;> (rw [show decide (t.pos < 0) = false from decide_eq_false (by omega), Bool.not_false, Bool.true_and, decide_eq_decide]; omega))
end Go.Proofs.YtamhkcnpocdfcaaGreatDoor
/- Nodes: rows compared, a member looked for. -/
namespace Go.Proofs.YtamhkcnpocdfcaaGreatDoor
open Go.Sx Go.RowKit
attribute [local irreducible] Ylds astep alex alexE alexD awp PCall FCall RCall MCall QCall athen ablock ajump rpost fpost

theorem take_succ_eq {α : Type} {A B : List α} {i : Nat} {x : α} (h : A.take i = B.take i) (ha : A[i]? = some x) (hb : B[i]? = some x) : A.take (i + 1) = B.take (i + 1) := by
  rw [List.take_add_one, List.take_add_one, h, ha, hb]

theorem Row_ok (A B : List Int) (hL : A.length ≤ 2000000) : PCall Tryz.prog 14 [nints A, nints B] (bl (decide (A = B))) := by
  refine pcall_of Tryz.func14 rfl Tryz.ntmps14 Tryz.results14 rfl ?_
  intro wb St0
  repeat' first
    | refine en_n ?_
    | refine awp_seq ?_
    | refine awp_region ?_
    | refine alex_nil ?_
    | refine w0 ?_
    | apply ay (hd := rfl)
    | (apply Y_move_d; exact rfl)
    | (apply Y_assign_d; exact rfl)
    | (apply Y_len_m; exact rfl; exact (by first | with_reducible exact et_nodes | with_reducible exact et_ints | with_reducible exact et_nodess))
    | (apply Y_neq; exact rfl; exact rfl)
    | (apply awp_condD; exact rfl; (intro hb); rotate_left; (intro hb); rotate_right)
    | refine awp_block ?_
    | refine awp_skip ?_
    | refine awp_ret ?_
    | refine en_r ?_
    | refine rpost_ret ?_
    | (apply res1; exact rfl)
  · have : A ≠ B := fun e => by subst e; omega
    rw [decide_eq_false this]
  · have hlen : A.length = B.length := by omega
    refine awp_loopF (α := Nat) (fun i => i ≤ A.length ∧ A.take i = B.take i) (fun i => [(0, .d (nints A)), (1, .d (nints B)), (5, .d (i64 (i : Int)))]) (fun _ => []) (fun i => A.length - i) 0 ⟨Nat.zero_le _, rfl⟩
      (Fits_mk (Le_cons rfl (Le_cons rfl (Le_cons rfl Le_nil))) Pre_nil rfl rfl) ?_
    rintro i ⟨hi1, hi2⟩
    repeat' first
      | refine en_n ?_
      | refine awp_seq ?_
      | refine awp_region ?_
      | refine alex_nil ?_
      | refine w0 ?_
      | (apply aI (hd := rfl); (first | exact Co_dd rfl | exact Co_bb rfl rfl rfl | exact Co_nn rfl); exact rfl; exact (by first | with_reducible exact es_nodes | with_reducible exact es_ints | with_reducible exact es_nodess); exact fun _ => rfl; rotate_left; intro v hv; rotate_right)
      | apply ay (hd := rfl)
      | (apply Y_move_d; exact rfl)
      | (apply Y_assign_d; exact rfl)
      | (apply Y_load_r1; exact rfl; exact (by first | with_reducible exact tcn_int | with_reducible exact tc_nodes | with_reducible exact tc_node | with_reducible exact tc_ints | with_reducible exact tcn_kind | with_reducible exact tcn_i64 | with_reducible exact tcn_str | with_reducible exact tcn_bool))
      | (apply Y_len_m; exact rfl; exact (by first | with_reducible exact et_nodes | with_reducible exact et_ints | with_reducible exact et_nodess))
      | (apply Y_lss; exact rfl; exact rfl)
      | (apply Y_neq; exact rfl; exact rfl)
      | (apply Y_add; exact rfl; exact rfl)
      | (apply awp_condD; exact rfl; (intro hb); rotate_left; (intro hb); rotate_right)
      | refine awp_block ?_
      | refine awp_skip ?_
      | refine awp_ret ?_
      | refine awp_exit ?_
      | refine awp_draw (by kernel_rfl) (by kernel_rfl) ?_
      | refine en_r ?_
      | refine en_e ?_
      | refine eb_n ?_
      | refine eb_r ?_
      | refine eb_e ?_
      | refine rpost_ret ?_
      | (apply res1; exact rfl)
    · omega
    · omega
    · rename_i b1 b2 u hu
      have : A ≠ B := by rintro rfl; rw [hu] at hv; exact hb (Option.some.inj hv)
      rw [decide_eq_false this]
    · omega
    · rename_i b1 b2 u hu
      obtain rfl : u = v := Decidable.not_not.1 hb
      exact ⟨i + 1, ⟨by omega, take_succ_eq (i := i) hi2 hu hv⟩, by omega, Fits_mk (Le_cons rfl (Le_cons rfl (Le_cons rfl Le_nil))) Pre_nil rfl rfl⟩
    · have h1 := hi2
      rw [show i = A.length by omega, List.take_length, hlen, List.take_length] at h1
      rw [decide_eq_true h1]

theorem fd37 : (Tryz.prog.fieldsOf 41).toList = [⟨"Kind", 39, 0, false, "", "", 0⟩, ⟨"Text", 9, 1, false, "", "", 8⟩, ⟨"Num", 2, 2, false, "", "", 24⟩, ⟨"Kids", 3, 3, false, "", "", 32⟩] := by kernel_rfl
def Nd.vals (n : Nd) : List Value := [.int .i64 n.kind, .string ⟨n.text.toArray⟩, .int .i64 n.num, .int .i64 n.kids]
theorem nd_ext (a b : Nd) : a = b ↔ a.kind = b.kind ∧ a.text = b.text ∧ a.num = b.num ∧ a.kids = b.kids := by
  cases a; cases b; simp
theorem nd_neq (a b : Nd) (x y : Operand) (w : World) : ((do eqGuard .neq 41 x y (.agg a.vals.toArray) (.agg b.vals.toArray); binOp .neq 41 (.agg a.vals.toArray) (.agg b.vals.toArray) : Sem Value)).run Tryz.prog w = .ok (.bool (decide (a ≠ b))) w := by
  have hS : Tryz.prog.underlying 41 = some (.struct (Tryz.prog.fieldsOf 41)) := by kernel_rfl
  have hp : Tryz.prog.stoodInHeld 41 = false := by kernel_rfl
  have hg : Tryz.prog.eqGuardType Tryz.prog.depth 41 = false := by kernel_rfl
  have u1 : Tryz.prog.underlying 39 = some (.int .i64) := by kernel_rfl
  have u2 : Tryz.prog.underlying 9 = some .string := by kernel_rfl
  have u3 : Tryz.prog.underlying 2 = some (.int .i64) := by kernel_rfl
  have u4 : Tryz.prog.underlying 3 = some (.int .i64) := by kernel_rfl
  have p1 : Tryz.prog.plainKey 39 = true := by kernel_rfl
  have p2 : Tryz.prog.plainKey 9 = true := by kernel_rfl
  have p3 : Tryz.prog.plainKey 2 = true := by kernel_rfl
  have p4 : Tryz.prog.plainKey 3 = true := by kernel_rfl
  have hk : ∀ (n : Nd) (w : World), (part 39 n.vals.toArray 0).run Tryz.prog w = .ok (.int .i64 n.kind) w := fun n w => run_part_plain (w := w) p1 rfl
  have ht : ∀ (n : Nd) (w : World), (part 9 n.vals.toArray 1).run Tryz.prog w = .ok (.string ⟨n.text.toArray⟩) w := fun n w => run_part_plain (w := w) p2 rfl
  have hn : ∀ (n : Nd) (w : World), (part 2 n.vals.toArray 2).run Tryz.prog w = .ok (.int .i64 n.num) w := fun n w => run_part_plain (w := w) p3 rfl
  have hi : ∀ (n : Nd) (w : World), (part 3 n.vals.toArray 3).run Tryz.prog w = .ok (.int .i64 n.kids) w := fun n w => run_part_plain (w := w) p4 rfl
  simp only [Sem.run_bind, run_eqGuard_agg w .neq _ x y _ _ hg, Result.andThen_ok, run_neq_struct]
  rw [show (10000 : Nat) = 9998 + 1 + 1 from rfl, run_equalIn_agg w (9998 + 1) _ _ _ hS hp, fd37]
  have c1 : ("Kind" ≠ "_") = True := by simp
  have c2 : ("Text" ≠ "_") = True := by simp
  have c3 : ("Num" ≠ "_") = True := by simp
  have c4 : ("Kids" ≠ "_") = True := by simp
  simp only [Op.eqFields, c1, c2, c3, c4, if_true, hk, Sem.run_bind, Result.andThen_ok, run_equalIn_int _ _ _ _ _ _ _ u1]
  rw [show decide (a ≠ b) = decide (¬ (a.kind = b.kind ∧ a.text = b.text ∧ a.num = b.num ∧ a.kids = b.kids)) from decide_eq_decide.2 (not_congr (nd_ext a b))]
  by_cases h1 : a.kind = b.kind <;> by_cases h2 : a.text = b.text <;> by_cases h3 : a.num = b.num <;> by_cases h4 : a.kids = b.kids <;> simp [h1, h2, h3, h4, ht, hn, hi, run_equalIn_int _ _ _ _ _ _ _ u3, run_equalIn_int _ _ _ _ _ _ _ u4, run_equalIn_string _ _ _ _ _ u2]

theorem Y_nd_neq {η : List Ob} {σ : Sl} {dst : Option Nat} {ty : TypeId} {pos : String} {after : Array Edge} {gd : Option (Nat × Bool)} {x y : Operand} {yt : TypeId} {a b : Nd} (hx : oval σ x = .d a.av) (hy : oval σ y = .d b.av) :
    Ylds Tryz.prog η σ ⟨dst, .binOp .neq 41 x y yt, ty, pos, after, gd⟩ (.d (.val (.bool (decide (a ≠ b))))) :=
  Y_binA (us := a.vals) (vs := b.vals) hx hy (nd_neq a b x y)

theorem Same_ok (A B : List Nd) (hL : A.length ≤ 2000000) : PCall Tryz.prog 16 [nodes A, nodes B] (bl (decide (A = B))) := by
  refine pcall_of Tryz.func16 rfl Tryz.ntmps16 Tryz.results16 rfl ?_
  intro wb St0
  repeat' first
    | refine en_n ?_
    | refine awp_seq ?_
    | refine awp_region ?_
    | refine alex_nil ?_
    | refine w0 ?_
    | apply ay (hd := rfl)
    | (apply Y_move_d; exact rfl)
    | (apply Y_assign_d; exact rfl)
    | (apply Y_len_m; exact rfl; exact (by first | with_reducible exact et_nodes | with_reducible exact et_ints | with_reducible exact et_nodess))
    | (apply Y_neq; exact rfl; exact rfl)
    | (apply awp_condD; exact rfl; (intro hb); rotate_left; (intro hb); rotate_right)
    | refine awp_block ?_
    | refine awp_skip ?_
    | refine awp_ret ?_
    | refine en_r ?_
    | refine rpost_ret ?_
    | (apply res1; exact rfl)
  · have : A ≠ B := fun e => by subst e; omega
    rw [decide_eq_false this]
  · have hlen : A.length = B.length := by omega
    refine awp_loopF (α := Nat) (fun i => i ≤ A.length ∧ A.take i = B.take i) (fun i => [(0, .d (nodes A)), (1, .d (nodes B)), (5, .d (i64 (i : Int)))]) (fun _ => []) (fun i => A.length - i) 0 ⟨Nat.zero_le _, rfl⟩
      (Fits_mk (Le_cons rfl (Le_cons rfl (Le_cons rfl Le_nil))) Pre_nil rfl rfl) ?_
    rintro i ⟨hi1, hi2⟩
    repeat' first
      | refine en_n ?_
      | refine awp_seq ?_
      | refine awp_region ?_
      | refine alex_nil ?_
      | refine w0 ?_
      | (apply Y_nd_neq; exact rfl; exact rfl)
      | (apply aI (hd := rfl); (first | exact Co_dd rfl | exact Co_bb rfl rfl rfl | exact Co_nn rfl); exact rfl; exact (by first | with_reducible exact es_nodes | with_reducible exact es_ints | with_reducible exact es_nodess); exact fun _ => rfl; rotate_left; intro v hv; rotate_right)
      | apply ay (hd := rfl)
      | (apply Y_move_d; exact rfl)
      | (apply Y_assign_d; exact rfl)
      | (apply Y_load_r; exact rfl; exact (by first | with_reducible exact tcn_int | with_reducible exact tc_nodes | with_reducible exact tc_node | with_reducible exact tc_ints | with_reducible exact tcn_kind | with_reducible exact tcn_i64 | with_reducible exact tcn_str | with_reducible exact tcn_bool); exact rfl)
      | (apply Y_len_m; exact rfl; exact (by first | with_reducible exact et_nodes | with_reducible exact et_ints | with_reducible exact et_nodess))
      | (apply Y_lss; exact rfl; exact rfl)
      | (apply Y_add; exact rfl; exact rfl)
      | (apply awp_condD; exact rfl; (intro hb); rotate_left; (intro hb); rotate_right)
      | refine awp_block ?_
      | refine awp_skip ?_
      | refine awp_ret ?_
      | refine awp_exit ?_
      | refine awp_draw (by kernel_rfl) (by kernel_rfl) ?_
      | refine en_r ?_
      | refine en_e ?_
      | refine eb_n ?_
      | refine eb_r ?_
      | refine eb_e ?_
      | refine rpost_ret ?_
      | (apply res1; exact rfl)
    · omega
    · omega
    · rename_i b1 b2 u hu
      have : A ≠ B := by rintro rfl; rw [hu] at hv; exact hb (Option.some.inj hv)
      rw [decide_eq_false this]
    · omega
    · rename_i b1 b2 u hu
      obtain rfl : u = v := Decidable.not_not.1 hb
      exact ⟨i + 1, ⟨by omega, take_succ_eq (i := i) hi2 hu hv⟩, by omega, Fits_mk (Le_cons rfl (Le_cons rfl (Le_cons rfl Le_nil))) Pre_nil rfl rfl⟩
    · have h1 := hi2
      rw [show i = A.length by omega, List.take_length, hlen, List.take_length] at h1
      rw [decide_eq_true h1]

def idxF (A : List Int) (b : Int) : Int := match A.findIdx? (· == b) with
  | some i => i
  | none => -1

theorem idx_hit {A : List Int} {b : Int} {i : Nat} (h : ∀ j, j < i → A[j]? ≠ some b) (hi : A[i]? = some b) : idxF A b = i := by
  have : A.findIdx? (· == b) = some i := by
    rw [List.findIdx?_eq_some_iff_getElem]
    obtain ⟨h1, h2⟩ := List.getElem?_eq_some_iff.1 hi
    refine ⟨h1, by simp [h2], fun j hj => ?_⟩
    have := h j hj
    rw [List.getElem?_eq_getElem (by omega)] at this
    simpa using this
  rw [idxF, this]
theorem idx_miss {A : List Int} {b : Int} (h : b ∉ A) : idxF A b = -1 := by
  have : A.findIdx? (· == b) = none := by
    rw [List.findIdx?_eq_none_iff]
    intro x hx
    simp; rintro rfl; exact h hx
  rw [idxF, this]
theorem idx_mem {A : List Int} {b : Int} (h : b ∈ A) : 0 ≤ idxF A b := by
  rw [idxF]; split
  · omega
  · rename_i hn
    rw [List.findIdx?_eq_none_iff] at hn
    have := hn b h; simp at this

theorem Index_ok (A : List Int) (b : Int) (hL : A.length ≤ 2000000) : PCall Tryz.prog 36 [nints A, i64 b] (i64 (idxF A b)) := by
  refine pcall_of Tryz.func36 rfl Tryz.ntmps36 Tryz.results36 rfl ?_
  intro wb St0
  repeat' first
    | refine en_n ?_
    | refine awp_seq ?_
    | refine awp_region ?_
    | refine alex_nil ?_
    | refine w0 ?_
    | apply ay (hd := rfl)
    | (apply Y_move_d; exact rfl)
    | (apply Y_assign_d; exact rfl)
    | (apply Y_len_m; exact rfl; exact (by first | with_reducible exact et_nodes | with_reducible exact et_ints | with_reducible exact et_nodess))
    | refine awp_block ?_
  refine awp_loopF (α := Nat) (fun i => i ≤ A.length ∧ ∀ j, j < i → A[j]? ≠ some b) (fun i => [(0, .d (nints A)), (1, .d (i64 b)), (7, .d (i64 (A.length : Int))), (8, .d (i64 (i : Int)))]) (fun _ => []) (fun i => A.length - i) 0 ⟨Nat.zero_le _, by omega⟩
      (Fits_mk (Le_cons rfl (Le_cons rfl (Le_d rfl rfl (Le_cons rfl Le_nil)))) Pre_nil rfl rfl) ?_
  rintro i ⟨hi1, hi2⟩
  repeat' first
    | refine en_n ?_
    | refine awp_seq ?_
    | refine awp_region ?_
    | refine alex_nil ?_
    | refine w0 ?_
    | (apply aI (hd := rfl); (first | exact Co_dd rfl | exact Co_bb rfl rfl rfl | exact Co_nn rfl); exact rfl; exact (by first | with_reducible exact es_nodes | with_reducible exact es_ints | with_reducible exact es_nodess); exact fun _ => rfl; rotate_left; intro v hv; rotate_right)
    | apply ay (hd := rfl)
    | (apply Y_move_d; exact rfl)
    | (apply Y_assign_d; exact rfl)
    | (apply Y_load_r1; exact rfl; exact (by first | with_reducible exact tcn_int | with_reducible exact tc_nodes | with_reducible exact tc_node | with_reducible exact tc_ints | with_reducible exact tcn_kind | with_reducible exact tcn_i64 | with_reducible exact tcn_str | with_reducible exact tcn_bool))
    | (apply Y_lss; exact rfl; exact rfl)
    | (apply Y_eql; exact rfl; exact rfl)
    | (apply Y_add; exact rfl; exact rfl)
    | (apply awp_condD; exact rfl; (intro hb); rotate_left; (intro hb); rotate_right)
    | refine awp_block ?_
    | refine awp_skip ?_
    | refine awp_ret ?_
    | refine awp_exit ?_
    | refine en_r ?_
    | refine en_e ?_
    | refine eb_n ?_
    | refine eb_r ?_
    | refine eb_e ?_
    | refine rpost_ret ?_
    | (apply res1; exact rfl)
  · omega
  · subst hb; rw [idx_hit hi2 hv]
  · omega
  · refine ⟨i + 1, ⟨by omega, fun j hj => ?_⟩, by omega, Fits_mk (Le_cons rfl (Le_cons rfl (Le_cons rfl (Le_cons rfl Le_nil)))) Pre_nil rfl rfl⟩
    rcases Nat.lt_or_ge j i with h1 | h1
    · exact hi2 j h1
    · rw [show j = i by omega]; intro h2; exact hb (Option.some.inj (h2.symm.trans hv))
  · rw [idx_miss]; intro h1
    obtain ⟨j, hj, h2⟩ := List.getElem_of_mem h1
    exact hi2 j (by omega) (by rw [List.getElem?_eq_getElem hj, h2])

theorem Contains_ok (A : List Int) (b : Int) (hL : A.length ≤ 2000000) : PCall Tryz.prog 34 [nints A, i64 b] (bl (decide (b ∈ A))) := by
  refine pcall_of Tryz.func34 rfl Tryz.ntmps34 Tryz.results34 rfl ?_
  intro wb St0
  repeat' first
    | refine en_n ?_
    | refine awp_seq ?_
    | refine awp_region ?_
    | refine alex_nil ?_
    | refine w0 ?_
    | (apply Y_call (hb := hbn_Index) (hc := Index_ok A b hL))
    | apply ay (hd := rfl)
    | (apply Y_move_d; exact rfl)
    | (apply Y_assign_d; exact rfl)
    | (apply Y_geq; exact rfl; exact rfl)
    | refine awp_ret ?_
    | refine rpost_ret ?_
    | (apply res1; exact rfl)
    | exact CoL_nil
    | refine CoL_d rfl ?_
  by_cases h : b ∈ A
  · rw [decide_eq_true h]; have := idx_mem h; rw [decide_eq_true (show idxF A b ≥ 0 by omega)]
  · rw [decide_eq_false h, idx_miss h]; rfl
end Go.Proofs.YtamhkcnpocdfcaaGreatDoor
/- The statements on types: facts on the program's types; the plain functions. -/
namespace Go.Proofs.YtamhkcnpocdfcaaGreatDoor
open Go.Sx Go.RowKit

theorem es_binds : elemSize Tryz.prog 35 = some 2 := by kernel_rfl
theorem et_binds : (elemTy Tryz.prog 35).isSome = true := by kernel_rfl
theorem ety_binds : elemTy Tryz.prog 35 = some 51 := by kernel_rfl
theorem fb_0 : fieldOff Tryz.prog 51 0 = some 0 := by kernel_rfl
theorem fb_1 : fieldOff Tryz.prog 51 1 = some 1 := by kernel_rfl
theorem fs_0 : fieldOff Tryz.prog 68 0 = some 0 := by kernel_rfl
theorem fs_1 : fieldOff Tryz.prog 68 1 = some 1 := by kernel_rfl
theorem tc_bind : tyCells Tryz.prog 51 = some (true, 2) := by kernel_rfl
theorem tc_m51 : tyCells Tryz.prog 66 = some (false, 1) := by kernel_rfl
theorem tc_m68 : tyCells Tryz.prog 75 = some (false, 1) := by kernel_rfl
theorem tc_pst : tyCells Tryz.prog 44 = some (false, 1) := by kernel_rfl
theorem tc_pf : tyCells Tryz.prog 24 = some (false, 1) := by kernel_rfl
theorem zl_bind : zeroLen Tryz.prog 51 = some 2 := by kernel_rfl
theorem by_binds : bytesOf Tryz.prog 35 = some 32 := by kernel_rfl
theorem zs_bind : (zeroOf Tryz.prog 51).isSome = true := by kernel_rfl
theorem zo_m68 : zeroOf Tryz.prog 75 = some [.map none] := by kernel_rfl
theorem zo_f24 : zeroOf Tryz.prog 24 = some [.nilFunc] := by kernel_rfl
theorem mt_51 : mapTy Tryz.prog 66 = some (3, 22) := by kernel_rfl
theorem mt_68 : mapTy Tryz.prog 75 = some (2, 3) := by kernel_rfl
theorem ut_i64 : Tryz.prog.underlying 2 = some (.int .i64) := by kernel_rfl
theorem z1_nodes : zero1 Tryz.prog 22 = some (.slice []) := by kernel_rfl
theorem z1_int : zero1 Tryz.prog 3 = some (.val (.int .i64 0)) := by kernel_rfl
theorem pl_store : placesOf Tryz.prog 68 = some [(0, 1), (1, 1)] := by kernel_rfl
theorem zo_store : zeroOf Tryz.prog 68 = some [.int .i64 0, .map none] := by kernel_rfl
theorem pl_bind : placesOf Tryz.prog 51 = some [(0, 1), (1, 1)] := by kernel_rfl
theorem zo_bind : zeroOf Tryz.prog 51 = some [.int .i64 0, .slice none 0 0] := by kernel_rfl
theorem pl_node : placesOf Tryz.prog 41 = some [(0, 1), (1, 1), (2, 1), (3, 1)] := by kernel_rfl
theorem pl_tok : placesOf Tryz.prog 58 = some [(0, 1), (1, 1), (2, 1), (3, 1)] := by kernel_rfl

theorem hb_right : hasBody Tryz.prog 33 = true := by kernel_rfl
theorem hb_Check : hasBody Tryz.prog 10 = true := by kernel_rfl
theorem hb_Check1 : hasBody Tryz.prog 32 = true := by kernel_rfl
theorem hb_CFn : hasBody Tryz.prog 31 = true := by kernel_rfl
theorem hb_IFn : hasBody Tryz.prog 62 = true := by kernel_rfl
theorem hb_IFb : hasBody Tryz.prog 49 = true := by kernel_rfl
theorem hb_Apply1 : hasBody Tryz.prog 50 = true := by kernel_rfl
theorem hb_Apply : hasBody Tryz.prog 26 = true := by kernel_rfl
theorem hb_Vars : hasBody Tryz.prog 11 = true := by kernel_rfl
theorem hb_Canon : hasBody Tryz.prog 12 = true := by kernel_rfl
theorem hb_Clone : hasBody Tryz.prog 35 = true := by kernel_rfl
theorem hb_variable : hasBody Tryz.prog 41 = true := by kernel_rfl
theorem hb_show : hasBody Tryz.prog 27 = true := by kernel_rfl
theorem hb_show1 : hasBody Tryz.prog 52 = true := by kernel_rfl
theorem hb_show2 : hasBody Tryz.prog 53 = true := by kernel_rfl
theorem hb_show3 : hasBody Tryz.prog 54 = true := by kernel_rfl
theorem hb_show4 : hasBody Tryz.prog 55 = true := by kernel_rfl
theorem hb_Show : hasBody Tryz.prog 7 = true := by kernel_rfl
theorem hb_NewStore : hasBody Tryz.prog 22 = true := by kernel_rfl
theorem hb_Fresh : hasBody Tryz.prog 23 = true := by kernel_rfl
theorem hb_SUnify : hasBody Tryz.prog 24 = true := by kernel_rfl
theorem hb_Resolve : hasBody Tryz.prog 25 = true := by kernel_rfl
theorem hb_same : hasBody Tryz.prog 46 = true := by kernel_rfl
theorem hb_ssize : hasBody Tryz.prog 47 = true := by kernel_rfl
theorem hb_whole : hasBody Tryz.prog 48 = true := by kernel_rfl
theorem hb_head : hasBody Tryz.prog 67 = true := by kernel_rfl
theorem hb_part : hasBody Tryz.prog 68 = true := by kernel_rfl
theorem hb_part1 : hasBody Tryz.prog 91 = true := by kernel_rfl
theorem hb_Unify : hasBody Tryz.prog 18 = true := by kernel_rfl

/-! ### the plain functions -/
def arrT : List UInt8 := [45, 62]
def intT : List UInt8 := [105, 110, 116]
def texT : List UInt8 := [116, 101, 120, 116]
def refT : List UInt8 := [114, 101, 102]
def rightN (n : Nd) : Bool :=
  if n.kind = 31 then decide (n.kids = 0 ∧ n.text = [] ∧ 0 ≤ n.num ∧ n.num ≤ 1048576)
  else if n.kind ≠ 32 ∨ n.num ≠ 0 then false
  else if n.text = arrT then decide (n.kids = 2)
  else if n.text = intT ∨ n.text = texT then decide (n.kids = 0)
  else if n.text = refT then decide (n.kids = 1)
  else rightF ⟨2, n.text, 0, 0⟩ && decide (n.kids ≤ 8)
/-- a type? -/
def okT (L : List Nd) : Bool := decide (L.length ≤ 4000) && wholeF L && L.all rightN
def ckT (L : List Nd) : Int := if okT L then 0 else 90
structure Bd where
  var : Int
  ty : List Nd
def Bd.av (b : Bd) : D := .agg [.val (.int .i64 b.var), nodes b.ty]
def binds (l : List Bd) : D := .slice (l.map Bd.av)
def addV (acc : List Int) (n : Nd) : List Int := if n.kind = 31 ∧ n.num ∉ acc then acc ++ [n.num] else acc
def varsG (L : List Nd) : List Int := L.foldl addV []
def varsF (L : List Nd) : List Int := if okT L then varsG L else []
def can1 (vs : List Int) (n : Nd) : Nd := if n.kind = 31 then { n with num := idxF vs n.num } else n
def canonF (L : List Nd) : List Nd := if okT L then L.map (can1 (varsG L)) else []
def app1 (l : List Bd) (n : Nd) : List Nd := if n.kind = 31 then (match l.find? fun b => b.var = n.num with | some b => b.ty | none => [n]) else [n]
def applyF (l : List Bd) (L : List Nd) : List Nd := L.flatMap (app1 l)
def varN (n : Int) : List Nd := [⟨31, [], n, 0⟩]
end Go.Proofs.YtamhkcnpocdfcaaGreatDoor
/- The statements on types, in plain words: types as rows of nodes; what variables are put for; that a row is read in one way only. -/
namespace Go.Proofs.YtamhkcnpocdfcaaGreatDoor

/-- a variable's node -/
def vN (n : Int) : Nd := ⟨31, [], n, 0⟩
/-- what a node becomes -/
def sub1 (σ : Int → List Nd) (n : Nd) : List Nd := if n.kind = 31 then σ n.num else [n]
def sub (σ : Int → List Nd) (L : List Nd) : List Nd := L.flatMap (sub1 σ)
def Vin (x : Int) (L : List Nd) : Prop := ∃ n ∈ L, n.kind = 31 ∧ n.num = x
/-- a variable is a leaf, of a number that may be -/
def Lf (L : List Nd) : Prop := ∀ n ∈ L, n.kind = 31 → n = vN n.num ∧ 0 ≤ n.num ∧ n.num ≤ 1048576
def Whl (L : List Nd) : Prop := cns L 1 = some L.length
structure Ty (L : List Nd) : Prop where
  whl : Whl L
  lf : Lf L
  rt : ∀ n ∈ L, rightN n = true

theorem sub_nil (σ : Int → List Nd) : sub σ [] = [] := rfl
theorem sub_cons (σ : Int → List Nd) (x : Nd) (r : List Nd) : sub σ (x :: r) = sub1 σ x ++ sub σ r := by simp [sub]
theorem sub_append (σ : Int → List Nd) (a b : List Nd) : sub σ (a ++ b) = sub σ a ++ sub σ b := by simp [sub]
theorem sub_flat (σ : Int → List Nd) (KK : List (List Nd)) : sub σ KK.flatten = (KK.map (sub σ)).flatten := by
  induction KK with
  | nil => rfl
  | cons K KK ih => rw [List.flatten_cons, sub_append, ih]; rfl
theorem sub_con {σ : Int → List Nd} {h : Nd} (hh : h.kind ≠ 31) (r : List Nd) : sub σ (h :: r) = h :: sub σ r := by
  rw [sub_cons, sub1, if_neg hh]; rfl
theorem sub_var (σ : Int → List Nd) (x : Int) : sub σ [vN x] = σ x := by
  rw [sub_cons, sub_nil, List.append_nil]; rfl
theorem sub_congr {σ τ : Int → List Nd} {L : List Nd} (h : ∀ x, Vin x L → σ x = τ x) : sub σ L = sub τ L := by
  induction L with
  | nil => rfl
  | cons n r ih =>
    rw [sub_cons, sub_cons, ih fun x ⟨m, hm, e⟩ => h x ⟨m, List.mem_cons_of_mem _ hm, e⟩]
    unfold sub1
    split
    · rw [h n.num ⟨n, List.mem_cons_self, ‹_›, rfl⟩]
    · rfl
theorem sub_sub (σ τ : Int → List Nd) (L : List Nd) : sub σ (sub τ L) = sub (fun x => sub σ (τ x)) L := by
  induction L with
  | nil => rfl
  | cons n r ih =>
    rw [sub_cons, sub_append, sub_cons, ih]
    congr 1
    unfold sub1
    split
    · rfl
    · rw [sub_cons, sub_nil, List.append_nil, sub1, if_neg ‹_›]
theorem Vin_nil {x : Int} : ¬ Vin x [] := fun ⟨_, h, _⟩ => by cases h
theorem Vin_cons {x : Int} {n : Nd} {r : List Nd} : Vin x (n :: r) ↔ (n.kind = 31 ∧ n.num = x) ∨ Vin x r := by
  unfold Vin; simp
theorem Vin_append {x : Int} {a b : List Nd} : Vin x (a ++ b) ↔ Vin x a ∨ Vin x b := by
  unfold Vin
  constructor
  · rintro ⟨n, hn, e⟩
    rcases List.mem_append.1 hn with hn | hn
    · exact .inl ⟨n, hn, e⟩
    · exact .inr ⟨n, hn, e⟩
  · rintro (⟨n, hn, e⟩ | ⟨n, hn, e⟩)
    · exact ⟨n, List.mem_append_left _ hn, e⟩
    · exact ⟨n, List.mem_append_right _ hn, e⟩
theorem Vin_var {x y : Int} : Vin x [vN y] ↔ x = y := by rw [Vin_cons]; simp [vN, Vin_nil]; exact eq_comm
theorem Vin_sub {x : Int} {σ : Int → List Nd} {L : List Nd} : Vin x (sub σ L) ↔ ∃ y, Vin y L ∧ Vin x (σ y) := by
  induction L with
  | nil => simp [sub_nil, Vin_nil]
  | cons n r ih =>
    rw [sub_cons, Vin_append, ih]
    unfold sub1
    split
    · rename_i hk
      constructor
      · rintro (h | ⟨y, hy, h⟩)
        · exact ⟨n.num, Vin_cons.2 (.inl ⟨hk, rfl⟩), h⟩
        · exact ⟨y, Vin_cons.2 (.inr hy), h⟩
      · rintro ⟨y, hy, h⟩
        rcases Vin_cons.1 hy with ⟨_, rfl⟩ | hy
        · exact .inl h
        · exact .inr ⟨y, hy, h⟩
    · rename_i hk
      constructor
      · rintro (h | ⟨y, hy, h⟩)
        · rcases Vin_cons.1 h with ⟨h, _⟩ | h
          · exact absurd h hk
          · exact absurd h Vin_nil
        · exact ⟨y, Vin_cons.2 (.inr hy), h⟩
      · rintro ⟨y, hy, h⟩
        rcases Vin_cons.1 hy with ⟨h0, _⟩ | hy
        · exact absurd h0 hk
        · exact .inr ⟨y, hy, h⟩
theorem sub_id {L : List Nd} {σ : Int → List Nd} (hl : Lf L) (h : ∀ x, Vin x L → σ x = [vN x]) : sub σ L = L := by
  induction L with
  | nil => rfl
  | cons n r ih =>
    rw [sub_cons, ih (fun m hm => hl m (List.mem_cons_of_mem _ hm)) (fun x hx => h x (Vin_cons.2 (.inr hx)))]
    unfold sub1
    split
    · rename_i hk
      rw [h n.num (Vin_cons.2 (.inl ⟨hk, rfl⟩)), ← (hl n List.mem_cons_self hk).1]; rfl
    · rfl
/-- a variable's row is no longer than any row it is in -/
theorem sub_ge {σ : Int → List Nd} {x : Int} : ∀ {L : List Nd}, Vin x L → (σ x).length ≤ (sub σ L).length
  | [], h => absurd h Vin_nil
  | n :: r, h => by
    rw [sub_cons, List.length_append]
    rcases Vin_cons.1 h with ⟨h1, h2⟩ | h
    · rw [sub1, if_pos h1, h2]; omega
    · have := sub_ge (σ := σ) h; omega

theorem Whl.pos {L : List Nd} (h : Whl L) : 0 < L.length := by have := cns_open h; omega
theorem Whl_var (x : Int) : Whl [vN x] := rfl
/-- put in whole rows, and it is whole -/
theorem cns_sub {σ : Int → List Nd} : ∀ {L : List Nd} {o : Nat}, Lf L → (∀ x, Vin x L → Whl (σ x)) → cns L o = some L.length → cns (sub σ L) o = some (sub σ L).length
  | [], 0, _, _, _ => rfl
  | [], o + 1, _, _, h => by cases h
  | x :: r, 0, _, _, h => by rw [cns_zero] at h; injection h with h; simp at h
  | x :: r, o + 1, hl, hw, h => by
    rw [cns_cons] at h
    split at h
    · cases h
    · rename_i h0
      cases hc : cns r (o + x.kids.toNat) with
      | none => rw [hc] at h; cases h
      | some j =>
        rw [hc] at h; simp only [Option.map_some, List.length_cons, Option.some.injEq, Nat.add_right_cancel_iff] at h; subst h
        have ih := cns_sub (σ := σ) (fun m hm => hl m (List.mem_cons_of_mem _ hm)) (fun y hy => hw y (Vin_cons.2 (.inr hy))) hc
        rw [sub_cons]
        by_cases hk : x.kind = 31
        · have e := (hl x List.mem_cons_self hk).1
          have e2 : x.kids = 0 := by rw [e]; rfl
          rw [e2, show o + (0 : Int).toNat = o from rfl] at ih
          rw [sub1, if_pos hk, Nat.add_comm o 1, cns_add, cns_append _ (hw x.num (Vin_cons.2 (.inl ⟨hk, rfl⟩)))]
          simp only [Option.bind_some, List.drop_left, ih, Option.map_some, List.length_append, Option.some.injEq]; omega
        · rw [sub1, if_neg hk, List.singleton_append, cns_cons, if_neg h0, ih]; rfl
theorem Ty.sub {σ : Int → List Nd} {L : List Nd} (h : Ty L) (hs : ∀ x, Vin x L → Ty (σ x)) : Ty (sub σ L) := by
  refine ⟨cns_sub h.lf (fun x hx => (hs x hx).whl) h.whl, ?_, ?_⟩
  · intro n hn hk
    obtain ⟨m, hm, hn⟩ := List.mem_flatMap.1 hn
    unfold sub1 at hn
    split at hn
    · exact (hs _ ⟨m, hm, ‹_›, rfl⟩).lf n hn hk
    · rw [List.mem_singleton] at hn; subst hn; exact absurd hk ‹_›
  · intro n hn
    obtain ⟨m, hm, hn⟩ := List.mem_flatMap.1 hn
    unfold sub1 at hn
    split at hn
    · exact (hs _ ⟨m, hm, ‹_›, rfl⟩).rt n hn
    · rw [List.mem_singleton] at hn; subst hn; exact h.rt n hm
theorem right_var {x : Int} (h : 0 ≤ x ∧ x ≤ 1048576) : rightN (vN x) = true := by
  rw [rightN, if_pos (show (vN x).kind = 31 from rfl)]; exact decide_eq_true ⟨rfl, rfl, h.1, h.2⟩
theorem right_leaf {n : Nd} (h : rightN n = true) (hk : n.kind = 31) : n = vN n.num ∧ 0 ≤ n.num ∧ n.num ≤ 1048576 := by
  rw [rightN, if_pos hk] at h
  obtain ⟨h1, h2, h3, h4⟩ := of_decide_eq_true h
  refine ⟨?_, h3, h4⟩
  cases n; simp only at hk h1 h2; subst hk; subst h1; subst h2; rfl
theorem Ty_var {x : Int} (h : 0 ≤ x ∧ x ≤ 1048576) : Ty [vN x] := ⟨rfl, fun n hn _ => by rw [List.mem_singleton] at hn; subst hn; exact ⟨rfl, h⟩, fun n hn => by rw [List.mem_singleton] at hn; subst hn; exact right_var h⟩
/-- read in one way only -/
theorem flat_uniq : ∀ {KK MM : List (List Nd)}, KK.length = MM.length → (∀ K ∈ KK, Whl K) → (∀ K ∈ MM, Whl K) → KK.flatten = MM.flatten → KK = MM
  | [], [], _, _, _, _ => rfl
  | [], _ :: _, h, _, _, _ => by simp at h
  | _ :: _, [], h, _, _, _ => by simp at h
  | K :: KK, M :: MM, hl, hk, hm, h => by
    simp only [List.length_cons, Nat.add_right_cancel_iff] at hl
    rw [List.flatten_cons, List.flatten_cons] at h
    have h1 := cns_append KK.flatten (hk K List.mem_cons_self)
    have h2 := cns_append MM.flatten (hm M List.mem_cons_self)
    rw [h, h2] at h1; injection h1 with h1
    have e := List.append_inj h h1.symm
    rw [e.1, flat_uniq hl (fun a ha => hk a (List.mem_cons_of_mem _ ha)) (fun a ha => hm a (List.mem_cons_of_mem _ ha)) e.2]
/-- a type is a variable, or a node with types behind -/
theorem Ty.cases {L : List Nd} (h : Ty L) : (∃ x, L = [vN x] ∧ 0 ≤ x ∧ x ≤ 1048576) ∨ ∃ (n : Nd) (KK : List (List Nd)), L = n :: KK.flatten ∧ n.kind ≠ 31 ∧ n.kids = KK.length ∧ (∀ K ∈ KK, Ty K) ∧ Node L 0 n KK [] := by
  obtain ⟨n, KK, R, hN, hl⟩ := node_of (L := L) (n := 0) h.whl
  have hd := hN.drop
  rw [List.drop_zero] at hd
  have hR : R = [] := by
    have := congrArg List.length hd
    simp only [List.length_cons, List.length_append] at this
    exact List.eq_nil_of_length_eq_zero (by omega)
  subst hR
  rw [List.append_nil] at hd
  by_cases hk : n.kind = 31
  · obtain ⟨e, hr⟩ := h.lf n (by rw [hd]; exact List.mem_cons_self) hk
    have e2 : n.kids = 0 := by rw [e]; rfl
    have hKK : KK = [] := List.eq_nil_of_length_eq_zero (by have := hN.kids; omega)
    subst hKK
    exact .inl ⟨n.num, by rw [hd, ← e]; rfl, hr⟩
  · refine .inr ⟨n, KK, hd, hk, hN.kids, fun K hK => ⟨hN.whole K hK, fun m hm => h.lf m ?_, fun m hm => h.rt m ?_⟩, hN⟩ <;>
    · rw [hd]; exact List.mem_cons_of_mem _ (List.mem_flatten.2 ⟨K, hK, hm⟩)
/-- two nodes, each with what is behind: made the same as each kid is -/
theorem con_sub_iff {σ : Int → List Nd} (hW : ∀ x, Whl (σ x)) {n m : Nd} {KK MM : List (List Nd)} (hn : n.kind ≠ 31) (hm : m.kind ≠ 31) (hnk : n.kids = KK.length) (hmk : m.kids = MM.length) (hK : ∀ K ∈ KK, Ty K) (hM : ∀ K ∈ MM, Ty K) :
    sub σ (n :: KK.flatten) = sub σ (m :: MM.flatten) ↔ n = m ∧ KK.map (sub σ) = MM.map (sub σ) := by
  have hw : ∀ {KK : List (List Nd)}, (∀ K ∈ KK, Ty K) → ∀ K ∈ KK.map (sub σ), Whl K := fun hK K h => by
    obtain ⟨K', hK', rfl⟩ := List.mem_map.1 h
    exact cns_sub (hK K' hK').lf (fun x _ => hW x) (hK K' hK').whl
  rw [sub_con hn, sub_con hm, sub_flat, sub_flat]
  constructor
  · intro h
    injection h with h1 h2
    refine ⟨h1, flat_uniq ?_ (hw hK) (hw hM) h2⟩
    rw [List.length_map, List.length_map]; subst h1; omega
  · rintro ⟨rfl, h⟩; rw [h]
end Go.Proofs.YtamhkcnpocdfcaaGreatDoor
/- The statements on types: the walks of right, Check, Vars, variable. -/
namespace Go.Proofs.YtamhkcnpocdfcaaGreatDoor
open Go.Sx
attribute [local irreducible] hasBody Program.underlying Ylds astep alex alexE alexD awp PCall FCall RCall MCall QCall athen ablock ajump rpost fpost mpost rpostC

theorem bd_sz : ∀ v : Bd, v.av.flat.length = 2 := fun _ => rfl
theorem nd_sz : ∀ v : Nd, v.av.flat.length = 4 := fun _ => rfl

theorem variable_ok (n : Int) : PCall Tryz.prog 41 [i64 n] (nodes (varN n)) := by
  refine pcall_of Tryz.func41 rfl Tryz.ntmps41 Tryz.results41 rfl ?_
  intro wb St0
  repeat' first
    | refine en_n ?_
    | refine awp_seq ?_
    | refine awp_region ?_
    | refine alex_nil ?_
    | refine w0 ?_
    | (apply Y_buildD; exact pl_node; exact zo_node; exact PD_d rfl rfl (PD_d rfl rfl PD_nil); exact rfl)
    | apply ay (hd := rfl)
    | (apply Y_move_d; exact rfl)
    | (apply Y_assign_d; exact rfl)
    | (apply Y_assign_nil; exact rfl)
    | (apply Y_lit1; exact (by first | with_reducible exact ety_binds | with_reducible exact ety_nodes | with_reducible exact ety_ints | with_reducible exact ety_nodess | with_reducible exact ety_toks | with_reducible exact ety_strs | with_reducible exact ety_u8s); exact (by first | with_reducible exact es_binds | with_reducible exact es_nodes | with_reducible exact es_ints | with_reducible exact es_nodess | with_reducible exact es_toks | with_reducible exact es_strs | with_reducible exact es_u8s); exact (by first | with_reducible exact zs_bind | with_reducible exact zs_node | with_reducible exact zs_int | with_reducible exact zs_nodes | with_reducible exact zs_tok | with_reducible exact zs_str | with_reducible exact zs_i64 | with_reducible exact zs_u8); exact rfl; exact rfl; (first | exact CoL_d rfl CoL_nil | exact CoL_b rfl rfl rfl CoL_nil | exact CoL_n rfl CoL_nil); exact rfl)
    | refine awp_ret ?_
    | refine rpost_ret ?_
    | (apply res1; exact rfl)
  rfl

set_option maxHeartbeats 4000000 in
theorem right_ok (n : Nd) : PCall Tryz.prog 33 [n.av] (bl (rightN n)) := by
  refine pcall_of Tryz.func33 rfl Tryz.ntmps33 Tryz.results33 rfl ?_
  intro wb St0
  repeat' first
    | refine en_n ?_
    | refine awp_seq ?_
    | refine awp_region ?_
    | refine alex_nil ?_
    | refine w0 ?_
    | (apply k1u (hd := rfl); exact rfl; exact rfl)
    | (apply k0u (hd := rfl); exact rfl; exact rfl)
    | (apply Y_eqs; exact rfl; exact rfl)
    | (apply Y_buildD; exact pl_tok; exact zo_tok; exact PD_d rfl rfl (PD_d rfl rfl PD_nil); exact rfl)
    | (refine Y_call hb_Right (Right_ok ⟨2, n.text, 0, 0⟩) (CoL_d rfl CoL_nil))
    | (apply aBox (hd := rfl) (hro := rfl); exact rfl; exact rfl)
    | apply ay (hd := rfl)
    | (apply Y_move_d; exact rfl)
    | (apply Y_assign_d; exact rfl)
    | (apply Y_leq; exact rfl; exact rfl)
    | (apply Y_geq; exact rfl; exact rfl)
    | (apply Y_eql; exact rfl; exact rfl)
    | (apply Y_neq; exact rfl; exact rfl)
    | (apply Y_pick_t; exact rfl; exact rfl)
    | (apply Y_pick_f; exact rfl; exact rfl)
    | (apply Y_field_p; exact rfl; exact (by first | with_reducible exact fb_0 | with_reducible exact fb_1 | with_reducible exact fs_0 | with_reducible exact fs_1 | with_reducible exact fn_0 | with_reducible exact fn_1 | with_reducible exact fn_2 | with_reducible exact fn_3 | with_reducible exact fo_0 | with_reducible exact fo_1 | with_reducible exact fo_2 | with_reducible exact fo_3))
    | (apply Y_load_p; exact rfl; exact (by first | with_reducible exact tc_bind | with_reducible exact tc_m51 | with_reducible exact tc_m68 | with_reducible exact tc_pst | with_reducible exact tc_pf | with_reducible exact tcn_int | with_reducible exact tc_nodes | with_reducible exact tc_node | with_reducible exact tc_ints | with_reducible exact tcn_kind | with_reducible exact tcn_i64 | with_reducible exact tcn_str | with_reducible exact tcn_bool | with_reducible exact tc_str | with_reducible exact tc_int | with_reducible exact tc_kind | with_reducible exact tc_tok | with_reducible exact tc_u8s | with_reducible exact tc_toks | with_reducible exact tc_strs | with_reducible exact tc_bool | with_reducible exact tc_err | with_reducible exact tc_i64); exact rfl; exact rfl)
    | (apply w1; exact rfl; exact rfl)
    | (apply gD; exact rfl; exact rfl; (intro hb); rotate_left; (intro hb); rotate_right)
    | (apply g1; exact rfl; exact rfl; (intro hb); rotate_left; (intro hb); rotate_right)
    | (apply awp_condD; exact rfl; (intro hb); rotate_left; (intro hb); rotate_right)
    | (apply awp_condT; exact rfl)
    | refine awp_block ?_
    | refine awp_skip ?_
    | refine awp_ret ?_
    | refine en_r ?_
    | refine eb_n ?_
    | refine eb_r ?_
    | refine rpost_ret ?_
    | (apply res1; exact rfl)
  all_goals refine bl_is ?_
  all_goals first
    | (simp only [rightN, arrT, intT, texT, refT, *, if_true, if_false, ne_eq, not_true, not_false_iff, or_true, true_or, or_false, false_or, true_and, false_and, and_false, decide_false, decide_true, reduceCtorEq, not_not]; done)
    | (simp_all [rightN, arrT, intT, texT, refT]; done)
    | (simp_all [rightN]; omega)

theorem Check1_ok (n : Nd) : PCall Tryz.prog 32 [n.av] (bl (!rightN n)) := by
  refine pcall_of Tryz.func32 rfl Tryz.ntmps32 Tryz.results32 rfl ?_
  intro wb St0
  repeat' first
    | refine en_n ?_
    | refine awp_seq ?_
    | refine awp_region ?_
    | refine alex_nil ?_
    | refine w0 ?_
    | (refine Y_call hb_right (right_ok n) (CoL_d rfl CoL_nil))
    | (apply aBox (hd := rfl) (hro := rfl); exact rfl; exact rfl)
    | apply ay (hd := rfl)
    | (apply Y_assign_d; exact rfl)
    | (apply Y_not; exact rfl)
    | (apply Y_load_pa; exact rfl; exact (by first | with_reducible exact tc_bind | with_reducible exact tc_m51 | with_reducible exact tc_m68 | with_reducible exact tc_pst | with_reducible exact tc_pf | with_reducible exact tcn_int | with_reducible exact tc_nodes | with_reducible exact tc_node | with_reducible exact tc_ints | with_reducible exact tcn_kind | with_reducible exact tcn_i64 | with_reducible exact tcn_str | with_reducible exact tcn_bool | with_reducible exact tc_str | with_reducible exact tc_int | with_reducible exact tc_kind | with_reducible exact tc_tok | with_reducible exact tc_u8s | with_reducible exact tc_toks | with_reducible exact tc_strs | with_reducible exact tc_bool | with_reducible exact tc_err | with_reducible exact tc_i64); exact rfl; exact rfl; exact rfl)
    | refine awp_ret ?_
    | refine rpost_ret ?_
    | (apply res1; exact rfl)
  rfl

/-- the first place of which a function says yes; -1 -/
def idxP {α : Type} (p : α → Bool) (L : List α) : Int := match L.findIdx? p with
  | some i => i
  | none => -1
theorem idxP_hit {α : Type} {p : α → Bool} {L : List α} {i : Nat} {v : α} (h : ∀ (j : Nat) u, j < i → L[j]? = some u → p u = false) (hi : L[i]? = some v) (hv : p v = true) : idxP p L = i := by
  have : L.findIdx? p = some i := by
    rw [List.findIdx?_eq_some_iff_getElem]
    obtain ⟨h1, h2⟩ := List.getElem?_eq_some_iff.1 hi
    refine ⟨h1, by rw [h2]; exact hv, fun j hj => ?_⟩
    rw [h j _ hj (List.getElem?_eq_getElem (by omega))]; simp
  rw [idxP, this]
theorem idxP_miss {α : Type} {p : α → Bool} {L : List α} (h : ∀ (j : Nat) u, L[j]? = some u → p u = false) : idxP p L = -1 := by
  have : L.findIdx? p = none := by
    rw [List.findIdx?_eq_none_iff]
    intro x hx
    obtain ⟨j, hj⟩ := List.mem_iff_getElem?.1 hx
    exact h j x hj
  rw [idxP, this]

theorem IFn_ok (f : FuncId) (p : Nd → Bool) (hbf : hasBody Tryz.prog f = true) (hp : ∀ n, PCall Tryz.prog f [n.av] (bl (p n))) (L : List Nd) (hL : L.length ≤ 2000000) :
    QCall Tryz.prog 62 [.d (nodes L), .clo f []] [] (i64 (idxP p L)) := by
  refine qcall_of Tryz.func62 rfl Tryz.ntmps62 Tryz.results62 rfl ?_
  intro wb St0
  repeat' first
    | refine en_n ?_
    | refine awp_seq ?_
    | refine awp_region ?_
    | refine alex_nil ?_
    | refine w0 ?_
    | apply ay (hd := rfl)
    | (apply Y_move_d; exact rfl)
    | (apply Y_assign_d; exact rfl)
    | (apply Y_len_m; exact rfl; exact (by first | with_reducible exact et_binds | with_reducible exact et_nodes | with_reducible exact et_ints | with_reducible exact et_nodess | with_reducible exact et_toks | with_reducible exact et_strs | with_reducible exact et_u8s))
    | refine awp_block ?_
  refine awp_loopF (α := Nat) (fun i => i ≤ L.length ∧ ∀ j u, j < i → L[j]? = some u → p u = false) (fun i => [(0, .d (nodes L)), (1, .clo f []), (7, .d (i64 (L.length : Int))), (8, .d (i64 (i : Int)))]) (fun _ => []) (fun i => L.length - i) 0 ⟨Nat.zero_le _, fun j u h => by omega⟩
    (Fits_mk (Le_cons rfl (Le_cons rfl (Le_d rfl rfl (Le_cons rfl Le_nil)))) Pre_nil rfl rfl) ?_
  rintro i ⟨hi1, hi2⟩
  repeat' first
    | refine en_n ?_
    | refine awp_seq ?_
    | refine awp_region ?_
    | refine alex_nil ?_
    | refine w0 ?_
    | (apply Y_move_clo; exact rfl)
    | (apply Y_pclo (hb := hbf) (hc := hp _); exact rfl)
    | (apply aI (hd := rfl); (first | exact Co_dd rfl | exact Co_bb rfl rfl rfl | exact Co_nn rfl); exact rfl; exact (by first | with_reducible exact es_binds | with_reducible exact es_nodes | with_reducible exact es_ints | with_reducible exact es_nodess | with_reducible exact es_toks | with_reducible exact es_strs | with_reducible exact es_u8s); exact fun _ => rfl; rotate_left; intro v hv; rotate_right)
    | apply ay (hd := rfl)
    | (apply Y_move_d; exact rfl)
    | (apply Y_assign_d; exact rfl)
    | (apply Y_load_r; exact rfl; exact (by first | with_reducible exact tc_bind | with_reducible exact tc_m51 | with_reducible exact tc_m68 | with_reducible exact tc_pst | with_reducible exact tc_pf | with_reducible exact tcn_int | with_reducible exact tc_nodes | with_reducible exact tc_node | with_reducible exact tc_ints | with_reducible exact tcn_kind | with_reducible exact tcn_i64 | with_reducible exact tcn_str | with_reducible exact tcn_bool | with_reducible exact tc_str | with_reducible exact tc_int | with_reducible exact tc_kind | with_reducible exact tc_tok | with_reducible exact tc_u8s | with_reducible exact tc_toks | with_reducible exact tc_strs | with_reducible exact tc_bool | with_reducible exact tc_err | with_reducible exact tc_i64); exact rfl)
    | (apply Y_lss; exact rfl; exact rfl)
    | (apply Y_add; exact rfl; exact rfl)
    | (apply awp_condD; exact rfl; (intro hb); rotate_left; (intro hb); rotate_right)
    | (apply awp_cond; exact rfl; (intro hb); rotate_left; (intro hb); rotate_right)
    | refine awp_block ?_
    | refine awp_skip ?_
    | refine awp_ret ?_
    | refine awp_exit ?_
    | refine en_r ?_
    | refine en_e ?_
    | refine eb_n ?_
    | refine eb_r ?_
    | refine eb_e ?_
    | refine rpost_ret ?_
    | (apply res1; exact rfl)
    | exact CoL_nil
    | refine CoL_d rfl ?_
  · omega
  · exact i64_is (idxP_hit hi2 hv hb).symm
  · omega
  · refine ⟨i + 1, ⟨by omega, fun j u hj hu => ?_⟩, by omega, Fits_mk (Le_cons rfl (Le_cons rfl (Le_cons rfl (Le_cons rfl Le_nil)))) Pre_nil rfl rfl⟩
    rcases Nat.lt_or_ge j i with h1 | h1
    · exact hi2 j u h1 hu
    · have hv' : L[i]? = some v := hv
      rw [show j = i by omega, hv'] at hu; injection hu with hu; subst hu; exact hb
  · exact i64_is (idxP_miss fun j u hu => hi2 j u (by have := (List.getElem?_eq_some_iff.1 hu).1; omega) hu).symm

theorem CFn_ok (f : FuncId) (p : Nd → Bool) (hbf : hasBody Tryz.prog f = true) (hp : ∀ n, PCall Tryz.prog f [n.av] (bl (p n))) (L : List Nd) (hL : L.length ≤ 2000000) :
    QCall Tryz.prog 31 [.d (nodes L), .clo f []] [] (bl (L.any p)) := by
  refine qcall_of Tryz.func31 rfl Tryz.ntmps31 Tryz.results31 rfl ?_
  intro wb St0
  repeat' first
    | refine en_n ?_
    | refine awp_seq ?_
    | refine awp_region ?_
    | refine alex_nil ?_
    | refine w0 ?_
    | (apply Y_move_clo; exact rfl)
    | (refine Y_qcall [] [] rfl rfl hb_IFn (IFn_ok f p hbf hp L hL) rfl ?_ rfl (by decide) rfl rfl rfl rfl; (repeat (refine SArgs_cons rfl ?_)); exact SArgs_nil)
    | apply ay (hd := rfl)
    | (apply Y_move_d; exact rfl)
    | (apply Y_assign_d; exact rfl)
    | (apply Y_geq; exact rfl; exact rfl)
    | refine awp_ret ?_
    | refine rpost_ret ?_
    | (apply res1; exact rfl)
  refine bl_is ?_
  cases h : L.any p with
  | true =>
    obtain ⟨x, hx, hpx⟩ := List.any_eq_true.1 h
    have : idxP p L ≥ 0 := by
      unfold idxP; split
      · omega
      · rename_i hn; rw [List.findIdx?_eq_none_iff] at hn; rw [hn x hx] at hpx; cases hpx
    simpa using this
  | false =>
    rw [idxP_miss fun j u hu => by have := List.any_eq_false.1 h u (List.mem_of_getElem? hu); simpa using this]
    rfl

theorem okT_len {L : List Nd} (h : okT L = true) : L.length ≤ 4000 ∧ wholeF L = true ∧ L.all rightN = true := by
  simpa [okT, and_assoc] using h
theorem Check_ok (L : List Nd) (hL : L.length ≤ 2000000) : PCall Tryz.prog 10 [nodes L] (i64 (ckT L)) := by
  refine pcall_of Tryz.func10 rfl Tryz.ntmps10 Tryz.results10 rfl ?_
  intro wb St0
  repeat' first
    | refine en_n ?_
    | refine awp_seq ?_
    | refine awp_region ?_
    | refine alex_nil ?_
    | refine w0 ?_
    | (apply k0u (hd := rfl); exact rfl; exact rfl)
    | (refine Y_call hb_Whole (Whole_ok L hL) (CoL_d rfl CoL_nil))
    | (refine Y_qcall [] [] rfl rfl hb_CFn (CFn_ok _ (fun n => !rightN n) hb_Check1 Check1_ok L hL) rfl ?_ rfl (by decide) rfl rfl rfl rfl; (repeat (refine SArgs_cons rfl ?_)); exact SArgs_nil)
    | apply ay (hd := rfl)
    | (apply Y_move_d; exact rfl)
    | (apply Y_assign_d; exact rfl)
    | (apply Y_len_m; exact rfl; exact (by first | with_reducible exact et_binds | with_reducible exact et_nodes | with_reducible exact et_ints | with_reducible exact et_nodess | with_reducible exact et_toks | with_reducible exact et_strs | with_reducible exact et_u8s))
    | (apply Y_gtr; exact rfl; exact rfl)
    | (apply Y_not; exact rfl)
    | (apply Y_pick_t; exact rfl; exact rfl)
    | (apply Y_pick_f; exact rfl; exact rfl)
    | (apply w1; exact rfl; exact rfl)
    | (apply gD; exact rfl; exact rfl; (intro hb); rotate_left; (intro hb); rotate_right)
    | (apply g1; exact rfl; exact rfl; (intro hb); rotate_left; (intro hb); rotate_right)
    | (apply awp_condT; exact rfl)
    | (apply awp_cond; exact rfl; (intro hb); rotate_left; (intro hb); rotate_right)
    | refine awp_skip ?_
    | refine awp_ret ?_
    | refine en_r ?_
    | refine rpost_ret ?_
    | (apply res1; exact rfl)
  all_goals refine i64_is ?_
  all_goals unfold ckT
  · rw [if_neg]; intro h; have := (okT_len h).1; omega
  · rw [if_neg]; intro h; have := (okT_len h).2.1; rw [this] at hb; cases hb
  · rw [if_neg]; intro h; have := (okT_len h).2.2
    obtain ⟨x, hx, hpx⟩ := List.any_eq_true.1 hb
    rw [List.all_eq_true.1 this x hx] at hpx; cases hpx
  · rename_i h1 h2
    rw [if_pos]
    have h3 : L.all rightN = true := List.all_eq_true.2 fun x hx => by have := List.any_eq_false.1 hb x hx; simpa using this
    have h4 : wholeF L = true := by simpa using h2
    simp [okT, h3, h4]; omega

/-! ### Vars -/
theorem addV_len (acc : List Int) (n : Nd) : (addV acc n).length ≤ acc.length + 1 := by unfold addV; split <;> simp
theorem varsG_take {L : List Nd} {i : Nat} {v : Nd} (h : L[i]? = some v) : varsG (L.take (i + 1)) = addV (varsG (L.take i)) v := by
  unfold varsG
  rw [List.take_add_one, h, Option.toList_some, List.foldl_append]; rfl
theorem varsG_len : ∀ (L : List Nd) (acc : List Int), (L.foldl addV acc).length ≤ acc.length + L.length
  | [], acc => by simp
  | n :: L, acc => by
    have := varsG_len L (addV acc n)
    have := addV_len acc n
    simp only [List.foldl_cons, List.length_cons]; omega

theorem varsG_bd {L : List Nd} (i : Nat) (h : L.length ≤ 2000000) : (varsG (L.take i)).length ≤ 2000000 := by
  have := varsG_len (L.take i) []
  have h2 : (L.take i).length ≤ L.length := by rw [List.length_take]; omega
  simp only [List.length_nil] at this
  unfold varsG; omega

theorem Vars_ok (L : List Nd) (hL : L.length ≤ 2000000) : PCall Tryz.prog 11 [nodes L] (nints (varsF L)) := by
  refine pcall_of Tryz.func11 rfl Tryz.ntmps11 Tryz.results11 rfl ?_
  intro wb St0
  repeat' first
    | refine en_n ?_
    | refine awp_seq ?_
    | refine awp_region ?_
    | refine alex_nil ?_
    | refine w0 ?_
    | (refine Y_call hb_Check (Check_ok L hL) (CoL_d rfl CoL_nil))
    | apply ay (hd := rfl)
    | (apply Y_move_d; exact rfl)
    | (apply Y_len_m; exact rfl; exact (by first | with_reducible exact et_binds | with_reducible exact et_nodes | with_reducible exact et_ints | with_reducible exact et_nodess | with_reducible exact et_toks | with_reducible exact et_strs | with_reducible exact et_u8s))
    | (apply Y_neq; exact rfl; exact rfl)
    | (apply Y_assign_nil; exact rfl)
    | (apply awp_condD; exact rfl; (intro hb); rotate_left; (intro hb); rotate_right)
    | refine awp_block ?_
    | refine awp_skip ?_
    | refine awp_ret ?_
    | refine en_r ?_
    | refine rpost_ret ?_
    | (apply res1n; exact rfl)
  · have : okT L = false := by
      cases h : okT L with
      | false => rfl
      | true => exfalso; apply hb; simp [ckT, h]
    simp [varsF, this, nints]
  · have hok : okT L = true := by
      cases h : okT L with
      | true => rfl
      | false => exfalso; have := hb; simp [ckT, h] at this
    have h4 := (okT_len hok).1
    refine awp_newbuf 3 false 3 1 rfl rfl ?_
    refine awp_loopF (α := Nat) (fun i => i ≤ L.length) (fun i => [(0, .d (nodes L)), (3, .buf 0 ((varsG (L.take i)).map ival).length), (9, .d (nodes L)), (10, .d (i64 (L.length : Int))), (11, .d (i64 (i : Int)))]) (fun i => [.buf false 3 1 ((varsG (L.take i)).map ival)]) (fun i => L.length - i) 0 (Nat.zero_le _)
      (Fits_mk (Le_cons rfl (Le_buf rfl rfl (Le_cons rfl (Le_d rfl rfl (Le_cons rfl Le_nil))))) (Pre_buf rfl rfl rfl Pre_nil) rfl rfl) ?_
    intro i hi
    repeat' first
      | refine en_n ?_
      | refine awp_seq ?_
      | refine awp_region ?_
      | refine alex_nil ?_
      | refine w0 ?_
      | (apply k1u (hd := rfl); exact rfl; exact rfl)
      | (refine Y_call hbn_Contains (Contains_ok (varsG (L.take i)) v.num (varsG_bd i hL)) (CoL_b rfl rfl rfl (CoL_d rfl CoL_nil)))
      | (apply aI (hd := rfl); (first | exact Co_dd rfl | exact Co_bb rfl rfl rfl | exact Co_nn rfl); exact rfl; exact (by first | with_reducible exact es_binds | with_reducible exact es_nodes | with_reducible exact es_ints | with_reducible exact es_nodess | with_reducible exact es_toks | with_reducible exact es_strs | with_reducible exact es_u8s); exact fun _ => rfl; rotate_left; intro v hv; rotate_right)
      | (apply aApp (hd := rfl) (hro := rfl); exact rfl; exact rfl; (first | exact Co_dd rfl | exact Co_bb rfl rfl rfl | exact Co_nn rfl); (first | exact rfl | (simp; done)); exact rfl; exact (by first | with_reducible exact ety_binds | with_reducible exact ety_nodes | with_reducible exact ety_ints | with_reducible exact ety_nodess | with_reducible exact ety_toks | with_reducible exact ety_strs | with_reducible exact ety_u8s); exact (by first | with_reducible exact es_binds | with_reducible exact es_nodes | with_reducible exact es_ints | with_reducible exact es_nodess | with_reducible exact es_toks | with_reducible exact es_strs | with_reducible exact es_u8s); exact (by first | with_reducible exact zl_bind | with_reducible exact zl_node | with_reducible exact zl_int | with_reducible exact zl_nodes | with_reducible exact zl_tok | with_reducible exact zl_str | with_reducible exact zl_i64 | with_reducible exact zl_u8); exact (by first | with_reducible exact by_binds | with_reducible exact by_nodes | with_reducible exact by_ints | with_reducible exact by_nodess | with_reducible exact by_toks | with_reducible exact by_strs | with_reducible exact by_u8s); (first | exact sz_map (fun _ => rfl) | exact sz_lit rfl))
      | (apply aAlloc (hd := rfl) (hro := rfl); exact (by first | with_reducible exact zo_m68 | with_reducible exact zo_f24 | with_reducible exact zo_node | with_reducible exact zon_int | with_reducible exact zo_tok | with_reducible exact zo_int | with_reducible exact zo_i64))
      | apply ay (hd := rfl)
      | (apply Y_move_d; exact rfl)
      | (apply Y_load_r; exact rfl; exact (by first | with_reducible exact tc_bind | with_reducible exact tc_m51 | with_reducible exact tc_m68 | with_reducible exact tc_pst | with_reducible exact tc_pf | with_reducible exact tcn_int | with_reducible exact tc_nodes | with_reducible exact tc_node | with_reducible exact tc_ints | with_reducible exact tcn_kind | with_reducible exact tcn_i64 | with_reducible exact tcn_str | with_reducible exact tcn_bool | with_reducible exact tc_str | with_reducible exact tc_int | with_reducible exact tc_kind | with_reducible exact tc_tok | with_reducible exact tc_u8s | with_reducible exact tc_toks | with_reducible exact tc_strs | with_reducible exact tc_bool | with_reducible exact tc_err | with_reducible exact tc_i64); exact rfl)
      | (apply Y_lss; exact rfl; exact rfl)
      | (apply Y_eql; exact rfl; exact rfl)
      | (apply Y_add; exact rfl; exact rfl)
      | (apply Y_not; exact rfl)
      | (apply Y_pick_t; exact rfl; exact rfl)
      | (apply Y_pick_f; exact rfl; exact rfl)
      | (apply Y_move_buf; exact rfl)
      | (apply Y_assign_buf; exact rfl)
      | (apply Y_field_p; exact rfl; exact (by first | with_reducible exact fb_0 | with_reducible exact fb_1 | with_reducible exact fs_0 | with_reducible exact fs_1 | with_reducible exact fn_0 | with_reducible exact fn_1 | with_reducible exact fn_2 | with_reducible exact fn_3 | with_reducible exact fo_0 | with_reducible exact fo_1 | with_reducible exact fo_2 | with_reducible exact fo_3))
      | (apply Y_load_p; exact rfl; exact (by first | with_reducible exact tc_bind | with_reducible exact tc_m51 | with_reducible exact tc_m68 | with_reducible exact tc_pst | with_reducible exact tc_pf | with_reducible exact tcn_int | with_reducible exact tc_nodes | with_reducible exact tc_node | with_reducible exact tc_ints | with_reducible exact tcn_kind | with_reducible exact tcn_i64 | with_reducible exact tcn_str | with_reducible exact tcn_bool | with_reducible exact tc_str | with_reducible exact tc_int | with_reducible exact tc_kind | with_reducible exact tc_tok | with_reducible exact tc_u8s | with_reducible exact tc_toks | with_reducible exact tc_strs | with_reducible exact tc_bool | with_reducible exact tc_err | with_reducible exact tc_i64); exact rfl; exact rfl)
      | (apply Y_lit1; exact (by first | with_reducible exact ety_binds | with_reducible exact ety_nodes | with_reducible exact ety_ints | with_reducible exact ety_nodess | with_reducible exact ety_toks | with_reducible exact ety_strs | with_reducible exact ety_u8s); exact (by first | with_reducible exact es_binds | with_reducible exact es_nodes | with_reducible exact es_ints | with_reducible exact es_nodess | with_reducible exact es_toks | with_reducible exact es_strs | with_reducible exact es_u8s); exact (by first | with_reducible exact zs_bind | with_reducible exact zs_node | with_reducible exact zs_int | with_reducible exact zs_nodes | with_reducible exact zs_tok | with_reducible exact zs_str | with_reducible exact zs_i64 | with_reducible exact zs_u8); exact rfl; exact rfl; (first | exact CoL_d rfl CoL_nil | exact CoL_b rfl rfl rfl CoL_nil | exact CoL_n rfl CoL_nil); exact rfl)
      | (apply w1; exact rfl; exact rfl)
      | (apply gD; exact rfl; exact rfl; (intro hb); rotate_left; (intro hb); rotate_right)
      | (refine w0' ?_)
      | (apply aStore; exact rfl; exact rfl; exact rfl; exact (by first | with_reducible exact tc_bind | with_reducible exact tc_m51 | with_reducible exact tc_m68 | with_reducible exact tc_pst | with_reducible exact tc_pf | with_reducible exact tcn_int | with_reducible exact tc_nodes | with_reducible exact tc_node | with_reducible exact tc_ints | with_reducible exact tcn_kind | with_reducible exact tcn_i64 | with_reducible exact tcn_str | with_reducible exact tcn_bool | with_reducible exact tc_str | with_reducible exact tc_int | with_reducible exact tc_kind | with_reducible exact tc_tok | with_reducible exact tc_u8s | with_reducible exact tc_toks | with_reducible exact tc_strs | with_reducible exact tc_bool | with_reducible exact tc_err | with_reducible exact tc_i64); exact rfl; exact rfl; exact rfl; exact rfl)
      | (apply awp_condD; exact rfl; (intro hb); rotate_left; (intro hb); rotate_right)
      | (apply awp_condN; exact rfl; (intro hb); rotate_left; (intro hb); rotate_right)
      | (apply awp_condF; exact rfl)
      | refine awp_block ?_
      | refine awp_skip ?_
      | refine awp_ret ?_
      | refine awp_exit ?_
      | refine en_e ?_
      | refine eb_n ?_
      | refine eb_e ?_
      | refine rpost_ret ?_
      | (apply res1b; exact rfl; exact rfl; (first | exact rfl | (simp; done)))
    all_goals first | omega | skip
    · have := varsG_bd (L := L) i hL; simp only [List.length_map, List.length_cons, List.length_nil]; omega
    · have hk : v.kind = 31 := ‹_›
      have e : varsG (L.take (i + 1)) = varsG (L.take i) ++ [v.num] := by rw [varsG_take (i := i) hv, addV, if_pos ⟨hk, hb⟩]
      exact ⟨i + 1, by omega, by omega, Fits_mk (Le_cons rfl (Le_buf rfl (by rw [e]; simp) (Le_cons rfl (Le_cons rfl (Le_cons rfl Le_nil))))) (Pre_buf rfl rfl (by rw [e, List.map_append]; rfl) Pre_nil) rfl rfl⟩
    · have e : varsG (L.take (i + 1)) = varsG (L.take i) := by rw [varsG_take (i := i) hv, addV, if_neg (fun h => h.2 hb)]
      exact ⟨i + 1, by omega, by omega, Fits_mk (Le_cons rfl (Le_buf rfl (by rw [e]) (Le_cons rfl (Le_cons rfl (Le_cons rfl Le_nil))))) (Pre_buf rfl rfl (by rw [e]) Pre_nil) rfl rfl⟩
    · have e : varsG (L.take (i + 1)) = varsG (L.take i) := by rw [varsG_take (i := i) hv, addV, if_neg (fun h => hb h.1)]
      exact ⟨i + 1, by omega, by omega, Fits_mk (Le_cons rfl (Le_buf rfl (by rw [e]) (Le_cons rfl (Le_cons rfl (Le_cons rfl Le_nil))))) (Pre_buf rfl rfl (by rw [e]) Pre_nil) rfl rfl⟩
    · have e : L.take i = L := List.take_of_length_le (by omega)
      rw [e, varsF, if_pos hok]; rfl

end Go.Proofs.YtamhkcnpocdfcaaGreatDoor
/- The statements on types: the walks of Canon and Apply. -/
namespace Go.Proofs.YtamhkcnpocdfcaaGreatDoor
open Go.Sx
attribute [local irreducible] hasBody Program.underlying Ylds astep alex alexE alexD awp PCall FCall RCall MCall QCall athen ablock ajump rpost fpost mpost rpostC

theorem Clone_fok (L : List Nd) (hL : L.length ≤ 2000000) (hne : L ≠ []) : FCall Tryz.prog 35 [nodes L] L.length 41 4 (L.map Nd.av) := by
  refine fcall_of Tryz.func35 rfl Tryz.ntmps35 Tryz.results35 rfl (sz_map fun _ => rfl) ?_
  intro wb St0
  repeat' first
    | (refine alex_thaw 0 rfl ?_)
    | refine en_n ?_
    | refine awp_seq ?_
    | refine awp_region ?_
    | refine alex_nil ?_
    | refine w0 ?_
    | (apply Y_eqnilF; exact rfl; exact rfl; exact (by simpa using hne); with_reducible exact et_nodes)
    | (apply aLit0 (hd := rfl) (hro := rfl); exact ety_nodes; exact es_nodes; exact zs_node; exact rfl)
    | (apply aApp (hd := rfl) (hro := rfl); exact rfl; exact rfl; (first | exact Co_dd rfl | exact Co_bb rfl rfl rfl | exact Co_nn rfl); (first | exact rfl | (simp; done)); exact rfl; exact (by first | with_reducible exact ety_binds | with_reducible exact ety_nodes | with_reducible exact ety_ints | with_reducible exact ety_nodess | with_reducible exact ety_toks | with_reducible exact ety_strs | with_reducible exact ety_u8s); exact (by first | with_reducible exact es_binds | with_reducible exact es_nodes | with_reducible exact es_ints | with_reducible exact es_nodess | with_reducible exact es_toks | with_reducible exact es_strs | with_reducible exact es_u8s); exact (by first | with_reducible exact zl_bind | with_reducible exact zl_node | with_reducible exact zl_int | with_reducible exact zl_nodes | with_reducible exact zl_tok | with_reducible exact zl_str | with_reducible exact zl_i64 | with_reducible exact zl_u8); exact (by first | with_reducible exact by_binds | with_reducible exact by_nodes | with_reducible exact by_ints | with_reducible exact by_nodess | with_reducible exact by_toks | with_reducible exact by_strs | with_reducible exact by_u8s); (first | exact sz_map (fun _ => rfl) | exact sz_lit rfl))
    | apply ay (hd := rfl)
    | (apply Y_move_d; exact rfl)
    | (apply Y_assign_nil; exact rfl)
    | (apply Y_assign_buf; exact rfl)
    | (apply awp_condF; exact rfl)
    | refine awp_skip ?_
    | refine awp_ret ?_
  · rw [List.length_map]; omega
  · refine fpost_ret ⟨_, rfl, .inr ⟨0, ?_, rfl⟩⟩
    show SV.buf 0 (0 + (L.map Nd.av).length) = .buf 0 L.length
    rw [List.length_map, Nat.zero_add]

/-- the first i nodes are turned -/
def canI (vs : List Int) (L : List Nd) (i : Nat) : List Nd := (L.take i).map (can1 vs) ++ L.drop i
theorem canI_len (vs : List Int) (L : List Nd) (i : Nat) : (canI vs L i).length = L.length := by simp [canI]; omega
theorem canI_at {vs : List Int} {L : List Nd} {i : Nat} {v : Nd} (h : L[i]? = some v) : (canI vs L i)[i]? = some v ∧ canI vs L (i + 1) = (canI vs L i).set i (can1 vs v) := by
  have hil := (List.getElem?_eq_some_iff.1 h).1
  have e1 : ((L.take i).map (can1 vs)).length = i := by simp; omega
  unfold canI
  refine ⟨by rw [List.getElem?_append_right (by omega), e1, Nat.sub_self, List.getElem?_drop]; exact h, ?_⟩
  rw [List.set_append_right _ _ (by omega), e1, Nat.sub_self, List.take_add_one, h]
  have e2 : L.drop i = v :: L.drop (i + 1) := by rw [List.drop_eq_getElem_cons hil]; congr 1; exact (List.getElem?_eq_some_iff.1 h).2
  rw [e2]; simp

theorem Canon_ok (L : List Nd) (hL : L.length ≤ 2000000) : PCall Tryz.prog 12 [nodes L] (nodes (canonF L)) := by
  refine pcall_of Tryz.func12 rfl Tryz.ntmps12 Tryz.results12 rfl ?_
  intro wb St0
  by_cases hok : okT L = true
  · obtain ⟨h4, hw, _⟩ := okT_len hok
    have hne : L ≠ [] := by rintro rfl; simp [wholeF] at hw
    have hck : ckT L = 0 := by simp [ckT, hok]
    have hvs : varsF L = varsG L := by simp [varsF, hok]
    have hvl : (varsG L).length ≤ 2000000 := by have := varsG_bd (L := L) L.length hL; rwa [List.take_length] at this
    have hV := Vars_ok L hL
    have hC := Check_ok L hL
    rw [hvs] at hV; rw [hck] at hC
    repeat' first
      | refine en_n ?_
      | refine awp_seq ?_
      | refine awp_region ?_
      | refine alex_nil ?_
      | refine w0 ?_
      | (apply Y_neqF; exact rfl; exact rfl; first | assumption | omega)
      | (refine Y_call hb_Vars hV (CoL_d rfl CoL_nil))
      | (refine Y_call hb_Check hC (CoL_d rfl CoL_nil))
      | (refine aFCall hb_Clone (Clone_fok L hL hne) (CoL_d rfl CoL_nil) rfl rfl ?_)
      | apply ay (hd := rfl)
      | (apply Y_move_d; exact rfl)
      | (apply Y_assign_d; exact rfl)
      | (apply Y_len_m; exact rfl; exact (by first | with_reducible exact et_binds | with_reducible exact et_nodes | with_reducible exact et_ints | with_reducible exact et_nodess | with_reducible exact et_toks | with_reducible exact et_strs | with_reducible exact et_u8s))
      | (apply Y_assign_nil; exact rfl)
      | (apply Y_assign_buf; exact rfl)
      | (apply awp_condF; exact rfl)
      | refine awp_block ?_
      | refine awp_skip ?_
    refine awp_loopF (α := Nat) (fun i => i ≤ L.length) (fun i => [(3, .d (nints (varsG L))), (4, .buf 0 L.length), (14, .d (nodes L)), (15, .d (i64 (L.length : Int))), (16, .d (i64 (i : Int)))]) (fun i => [.buf true 41 4 ((canI (varsG L) L i).map Nd.av)]) (fun i => L.length - i) 0 (Nat.zero_le _)
      (Fits_mk (Le_cons rfl (Le_cons rfl (Le_cons rfl (Le_d rfl rfl (Le_cons rfl Le_nil))))) (Pre_buf rfl rfl rfl Pre_nil) rfl rfl) ?_
    intro i hi
    repeat' first
      | (refine awp_freezeW 33 0 rfl rfl rfl ?_)
      | refine en_n ?_
      | refine awp_seq ?_
      | refine awp_region ?_
      | refine alex_nil ?_
      | refine w0 ?_
      | (refine Y_call hbn_Index (Index_ok (varsG L) v.num hvl) (CoL_d rfl (CoL_d rfl CoL_nil)))
      | (refine Y_index_b rfl rfl rfl es_nodes ?_ ?_)
      | (refine Y_field_bp rfl fn_2)
      | (refine aStoreBF (cs := v.av.flat) (hro := rfl) rfl rfl rfl tcn_i64 rfl rfl ?_ rfl ?_)
      | (apply aI (hd := rfl); (first | exact Co_dd rfl | exact Co_bb rfl rfl rfl | exact Co_nn rfl); exact rfl; exact (by first | with_reducible exact es_binds | with_reducible exact es_nodes | with_reducible exact es_ints | with_reducible exact es_nodess | with_reducible exact es_toks | with_reducible exact es_strs | with_reducible exact es_u8s); exact fun _ => rfl; rotate_left; intro v hv; rotate_right)
      | (apply aAlloc (hd := rfl) (hro := rfl); exact (by first | with_reducible exact zo_m68 | with_reducible exact zo_f24 | with_reducible exact zo_node | with_reducible exact zon_int | with_reducible exact zo_tok | with_reducible exact zo_int | with_reducible exact zo_i64))
      | apply ay (hd := rfl)
      | (apply Y_move_d; exact rfl)
      | (apply Y_assign_d; exact rfl)
      | (apply Y_load_r; exact rfl; exact (by first | with_reducible exact tc_bind | with_reducible exact tc_m51 | with_reducible exact tc_m68 | with_reducible exact tc_pst | with_reducible exact tc_pf | with_reducible exact tcn_int | with_reducible exact tc_nodes | with_reducible exact tc_node | with_reducible exact tc_ints | with_reducible exact tcn_kind | with_reducible exact tcn_i64 | with_reducible exact tcn_str | with_reducible exact tcn_bool | with_reducible exact tc_str | with_reducible exact tc_int | with_reducible exact tc_kind | with_reducible exact tc_tok | with_reducible exact tc_u8s | with_reducible exact tc_toks | with_reducible exact tc_strs | with_reducible exact tc_bool | with_reducible exact tc_err | with_reducible exact tc_i64); exact rfl)
      | (apply Y_lss; exact rfl; exact rfl)
      | (apply Y_eql; exact rfl; exact rfl)
      | (apply Y_add; exact rfl; exact rfl)
      | (apply Y_move_buf; exact rfl)
      | (apply Y_assign_buf; exact rfl)
      | (apply Y_field_p; exact rfl; exact (by first | with_reducible exact fb_0 | with_reducible exact fb_1 | with_reducible exact fs_0 | with_reducible exact fs_1 | with_reducible exact fn_0 | with_reducible exact fn_1 | with_reducible exact fn_2 | with_reducible exact fn_3 | with_reducible exact fo_0 | with_reducible exact fo_1 | with_reducible exact fo_2 | with_reducible exact fo_3))
      | (apply Y_load_p; exact rfl; exact (by first | with_reducible exact tc_bind | with_reducible exact tc_m51 | with_reducible exact tc_m68 | with_reducible exact tc_pst | with_reducible exact tc_pf | with_reducible exact tcn_int | with_reducible exact tc_nodes | with_reducible exact tc_node | with_reducible exact tc_ints | with_reducible exact tcn_kind | with_reducible exact tcn_i64 | with_reducible exact tcn_str | with_reducible exact tcn_bool | with_reducible exact tc_str | with_reducible exact tc_int | with_reducible exact tc_kind | with_reducible exact tc_tok | with_reducible exact tc_u8s | with_reducible exact tc_toks | with_reducible exact tc_strs | with_reducible exact tc_bool | with_reducible exact tc_err | with_reducible exact tc_i64); exact rfl; exact rfl)
      | (refine w0' ?_)
      | (apply aStore; exact rfl; exact rfl; exact rfl; exact (by first | with_reducible exact tc_bind | with_reducible exact tc_m51 | with_reducible exact tc_m68 | with_reducible exact tc_pst | with_reducible exact tc_pf | with_reducible exact tcn_int | with_reducible exact tc_nodes | with_reducible exact tc_node | with_reducible exact tc_ints | with_reducible exact tcn_kind | with_reducible exact tcn_i64 | with_reducible exact tcn_str | with_reducible exact tcn_bool | with_reducible exact tc_str | with_reducible exact tc_int | with_reducible exact tc_kind | with_reducible exact tc_tok | with_reducible exact tc_u8s | with_reducible exact tc_toks | with_reducible exact tc_strs | with_reducible exact tc_bool | with_reducible exact tc_err | with_reducible exact tc_i64); exact rfl; exact rfl; exact rfl; exact rfl)
      | (apply awp_condD; exact rfl; (intro hb); rotate_left; (intro hb); rotate_right)
      | refine awp_block ?_
      | refine awp_skip ?_
      | refine awp_ret ?_
      | refine awp_exit ?_
      | refine en_e ?_
      | refine eb_n ?_
      | refine eb_e ?_
      | refine rpost_ret ?_
    all_goals first | omega | skip
    · rw [List.length_map, canI_len]; exact Nat.le_refl _
    · show ((canI (varsG L) L i).map Nd.av)[(i : Int).toNat]? = some (.agg v.av.flat)
      rw [Int.toNat_natCast, List.getElem?_map, (canI_at (vs := varsG L) (i := i) hv).1]; rfl
    · refine ⟨i + 1, by omega, by omega, Fits_mk (Le_cons rfl (Le_cons rfl (Le_cons rfl (Le_cons rfl (Le_cons rfl Le_nil))))) (Pre_buf rfl rfl ?_ Pre_nil) rfl rfl⟩
      have hk : v.kind = 31 := ‹_›
      show _ = ((canI (varsG L) L i).map Nd.av).set (i : Int).toNat (.agg (v.av.flat.set (0 + 2) _))
      rw [(canI_at (vs := varsG L) (i := i) hv).2, Int.toNat_natCast, List.map_set, can1, if_pos hk]; rfl
    · refine ⟨i + 1, by omega, by omega, Fits_mk (Le_cons rfl (Le_cons rfl (Le_cons rfl (Le_cons rfl (Le_cons rfl Le_nil))))) (Pre_buf rfl rfl ?_ Pre_nil) rfl rfl⟩
      have hk : ¬ v.kind = 31 := ‹_›
      have hi' := canI_at (vs := varsG L) (i := i) hv
      rw [hi'.2, can1, if_neg hk]
      congr 1
      refine List.ext_getElem? fun j => ?_
      rw [List.getElem?_set]
      split
      · rename_i e; subst e; rw [if_pos (List.getElem?_eq_some_iff.1 hi'.1).1, hi'.1]
      · rfl
    · have e : canI (varsG L) L i = canonF L := by rw [canonF, if_pos hok, canI, List.take_of_length_le (by omega), List.drop_of_length_le (by omega), List.append_nil]
      exact res1b rfl rfl (by rw [List.length_map, canI_len]) (by rw [e]; rfl)
  · have hV := Vars_ok L hL
    have hC := Check_ok L hL
    have hck : ckT L = 90 := by simp [ckT, hok]
    rw [hck] at hC
    repeat' first
      | refine en_n ?_
      | refine awp_seq ?_
      | refine awp_region ?_
      | refine alex_nil ?_
      | refine w0 ?_
      | (apply Y_neqT; exact rfl; exact rfl; first | assumption | omega)
      | (refine Y_call hb_Vars hV (CoL_d rfl CoL_nil))
      | (refine Y_call hb_Check hC (CoL_d rfl CoL_nil))
      | apply ay (hd := rfl)
      | (apply Y_move_d; exact rfl)
      | (apply Y_assign_d; exact rfl)
      | (apply Y_assign_nil; exact rfl)
      | (apply awp_condT; exact rfl)
      | refine awp_ret ?_
      | refine en_r ?_
      | refine rpost_ret ?_
      | (apply res1n; exact rfl)
    simp [canonF, hok, nodes]

/-! ### Apply -/
abbrev Nd.cells (n : Nd) : List D := [.val (.int .i64 n.kind), .val (.string ⟨n.text.toArray⟩), .val (.int .i64 n.num), .val (.int .i64 n.kids)]
theorem Apply1_ok (n : Nd) (b : Bd) : QCall Tryz.prog 50 [.d b.av, .ptr 0 0] [.box (n.cells.map .d)] (bl (decide (b.var = n.num))) := by
  refine qcall_of Tryz.func50 rfl Tryz.ntmps50 Tryz.results50 rfl ?_
  intro wb St0
  repeat' first
    | refine en_n ?_
    | refine awp_seq ?_
    | refine awp_region ?_
    | refine alex_nil ?_
    | refine w0 ?_
    | (apply aBox (hd := rfl) (hro := rfl); exact rfl; exact rfl)
    | apply ay (hd := rfl)
    | (apply Y_assign_d; exact rfl)
    | (apply Y_eql; exact rfl; exact rfl)
    | (apply Y_field_p; exact rfl; exact (by first | with_reducible exact fb_0 | with_reducible exact fb_1 | with_reducible exact fs_0 | with_reducible exact fs_1 | with_reducible exact fn_0 | with_reducible exact fn_1 | with_reducible exact fn_2 | with_reducible exact fn_3 | with_reducible exact fo_0 | with_reducible exact fo_1 | with_reducible exact fo_2 | with_reducible exact fo_3))
    | (apply Y_load_p; exact rfl; exact (by first | with_reducible exact tc_bind | with_reducible exact tc_m51 | with_reducible exact tc_m68 | with_reducible exact tc_pst | with_reducible exact tc_pf | with_reducible exact tcn_int | with_reducible exact tc_nodes | with_reducible exact tc_node | with_reducible exact tc_ints | with_reducible exact tcn_kind | with_reducible exact tcn_i64 | with_reducible exact tcn_str | with_reducible exact tcn_bool | with_reducible exact tc_str | with_reducible exact tc_int | with_reducible exact tc_kind | with_reducible exact tc_tok | with_reducible exact tc_u8s | with_reducible exact tc_toks | with_reducible exact tc_strs | with_reducible exact tc_bool | with_reducible exact tc_err | with_reducible exact tc_i64); exact rfl; exact rfl)
    | refine awp_ret ?_
    | refine rpost_ret ?_
    | (apply res1; exact rfl)
  rfl
theorem IFb_ok (n : Nd) (l : List Bd) (hl : l.length ≤ 2000000) :
    QCall Tryz.prog 49 [.d (binds l), .clo 50 [0]] [.box (n.cells.map .d)] (i64 (idxP (fun b => decide (b.var = n.num)) l)) := by
  refine qcall_of Tryz.func49 rfl Tryz.ntmps49 Tryz.results49 rfl ?_
  intro wb St0
  repeat' first
    | refine en_n ?_
    | refine awp_seq ?_
    | refine awp_region ?_
    | refine alex_nil ?_
    | refine w0 ?_
    | apply ay (hd := rfl)
    | (apply Y_move_d; exact rfl)
    | (apply Y_assign_d; exact rfl)
    | (apply Y_len_m; exact rfl; exact (by first | with_reducible exact et_binds | with_reducible exact et_nodes | with_reducible exact et_ints | with_reducible exact et_nodess | with_reducible exact et_toks | with_reducible exact et_strs | with_reducible exact et_u8s))
    | refine awp_block ?_
  refine awp_loopF (α := Nat) (fun i => i ≤ l.length ∧ ∀ (j : Nat) u, j < i → l[j]? = some u → decide (u.var = n.num) = false) (fun i => [(0, .d (binds l)), (1, .clo 50 [0]), (7, .d (i64 (l.length : Int))), (8, .d (i64 (i : Int)))]) (fun _ => [.box (n.cells.map .d)]) (fun i => l.length - i) 0 ⟨Nat.zero_le _, fun j u h => by omega⟩
    (Fits_mk (Le_cons rfl (Le_cons rfl (Le_d rfl rfl (Le_cons rfl Le_nil)))) (Pre_cons rfl rfl Pre_nil) rfl rfl) ?_
  rintro i ⟨hi1, hi2⟩
  repeat' first
    | refine en_n ?_
    | refine awp_seq ?_
    | refine awp_region ?_
    | refine alex_nil ?_
    | refine w0 ?_
    | (apply Y_move_clo; exact rfl)
    | (refine Y_qcall [0] [0] rfl rfl hb_Apply1 (Apply1_ok n v) rfl ?_ rfl (by decide) rfl rfl rfl rfl; (repeat (refine SArgs_cons rfl ?_)); exact SArgs_nil)
    | (apply aI (hd := rfl); (first | exact Co_dd rfl | exact Co_bb rfl rfl rfl | exact Co_nn rfl); exact rfl; exact (by first | with_reducible exact es_binds | with_reducible exact es_nodes | with_reducible exact es_ints | with_reducible exact es_nodess | with_reducible exact es_toks | with_reducible exact es_strs | with_reducible exact es_u8s); exact fun _ => rfl; rotate_left; intro v hv; rotate_right)
    | apply ay (hd := rfl)
    | (apply Y_move_d; exact rfl)
    | (apply Y_assign_d; exact rfl)
    | (apply Y_load_r; exact rfl; exact (by first | with_reducible exact tc_bind | with_reducible exact tc_m51 | with_reducible exact tc_m68 | with_reducible exact tc_pst | with_reducible exact tc_pf | with_reducible exact tcn_int | with_reducible exact tc_nodes | with_reducible exact tc_node | with_reducible exact tc_ints | with_reducible exact tcn_kind | with_reducible exact tcn_i64 | with_reducible exact tcn_str | with_reducible exact tcn_bool | with_reducible exact tc_str | with_reducible exact tc_int | with_reducible exact tc_kind | with_reducible exact tc_tok | with_reducible exact tc_u8s | with_reducible exact tc_toks | with_reducible exact tc_strs | with_reducible exact tc_bool | with_reducible exact tc_err | with_reducible exact tc_i64); exact rfl)
    | (apply Y_lss; exact rfl; exact rfl)
    | (apply Y_add; exact rfl; exact rfl)
    | (apply awp_condD; exact rfl; (intro hb); rotate_left; (intro hb); rotate_right)
    | refine awp_block ?_
    | refine awp_skip ?_
    | refine awp_ret ?_
    | refine awp_exit ?_
    | refine en_r ?_
    | refine en_e ?_
    | refine eb_n ?_
    | refine eb_r ?_
    | refine eb_e ?_
    | refine rpost_ret ?_
    | (apply res1; exact rfl)
  · omega
  · exact i64_is (idxP_hit hi2 hv (by simpa using hb)).symm
  · omega
  · refine ⟨i + 1, ⟨by omega, fun j u hj hu => ?_⟩, by omega, Fits_mk (Le_cons rfl (Le_cons rfl (Le_cons rfl (Le_cons rfl Le_nil)))) (Pre_cons rfl rfl Pre_nil) rfl rfl⟩
    rcases Nat.lt_or_ge j i with h1 | h1
    · exact hi2 j u h1 hu
    · have hv' : l[i]? = some v := hv
      rw [show j = i by omega, hv'] at hu; injection hu with hu; subst hu; simpa using hb
  · exact i64_is (idxP_miss fun j u hu => hi2 j u (by have := (List.getElem?_eq_some_iff.1 hu).1; omega) hu).symm

theorem find_idxP {α : Type} {p : α → Bool} : ∀ {l : List α}, (l.find? p = none ∧ idxP p l = -1) ∨ ∃ (k : Nat) (x : α), l[k]? = some x ∧ idxP p l = k ∧ l.find? p = some x := by
  intro l
  cases h : l.findIdx? p with
  | none =>
    rw [List.findIdx?_eq_none_iff] at h
    exact .inl ⟨List.find?_eq_none.2 fun x hx => by rw [h x hx]; simp, by unfold idxP; rw [List.findIdx?_eq_none_iff.2 h]⟩
  | some k =>
    obtain ⟨hk, h1, h2⟩ := List.findIdx?_eq_some_iff_getElem.1 h
    refine .inr ⟨k, l[k], List.getElem?_eq_getElem hk, by unfold idxP; rw [h], ?_⟩
    exact List.find?_eq_some_iff_getElem.2 ⟨h1, k, hk, rfl, fun j hj => by simpa using h2 j hj⟩

def apI (l : List Bd) (L : List Nd) (i : Nat) : List Nd := (L.take i).flatMap (app1 l)
theorem apI_succ {l : List Bd} {L : List Nd} {i : Nat} {v : Nd} (h : L[i]? = some v) : apI l L (i + 1) = apI l L i ++ app1 l v := by
  unfold apI; rw [List.take_add_one, h]; simp
theorem flat_len {l : List Bd} (M : Nat) (hM : ∀ b ∈ l, b.ty.length ≤ M) (h1 : 1 ≤ M) : ∀ (L : List Nd), (L.flatMap (app1 l)).length ≤ L.length * M
  | [] => by simp
  | n :: L => by
    have ih := flat_len M hM h1 L
    have : (app1 l n).length ≤ M := by
      unfold app1
      split
      · split
        · rename_i b hb; exact hM b (List.mem_of_find?_eq_some hb)
        · simpa using h1
      · simpa using h1
    simp only [List.flatMap_cons, List.length_append, List.length_cons, Nat.add_mul]; omega

set_option maxHeartbeats 1000000 in
theorem Apply_ok (l : List Bd) (L : List Nd) (hl : l.length ≤ 2000000) (hL : L.length ≤ 10000) (hM : ∀ b ∈ l, b.ty.length ≤ 20000) : PCall Tryz.prog 26 [binds l, nodes L] (nodes (applyF l L)) := by
  have hbd : ∀ k, (apI l L k).length ≤ 200000000 := fun k => by
    have h1 := flat_len (l := l) 20000 hM (by omega) (L.take k)
    have h2 : (L.take k).length ≤ L.length := by rw [List.length_take]; omega
    have h3 := Nat.mul_le_mul_right 20000 (Nat.le_trans h2 hL)
    unfold apI; omega
  refine pcall_of Tryz.func26 rfl Tryz.ntmps26 Tryz.results26 rfl ?_
  intro wb St0
  repeat' first
    | refine en_n ?_
    | refine awp_seq ?_
    | refine awp_region ?_
    | refine alex_nil ?_
    | refine w0 ?_
    | apply ay (hd := rfl)
    | (apply Y_move_d; exact rfl)
    | (apply Y_len_m; exact rfl; exact (by first | with_reducible exact et_binds | with_reducible exact et_nodes | with_reducible exact et_ints | with_reducible exact et_nodess | with_reducible exact et_toks | with_reducible exact et_strs | with_reducible exact et_u8s))
    | (apply Y_assign_nil; exact rfl)
    | refine awp_block ?_
  refine awp_newbuf 5 false 41 4 rfl rfl ?_
  refine awp_loopF (α := Nat) (fun i => i ≤ L.length) (fun i => [(0, .d (binds l)), (5, .buf 0 ((apI l L i).map Nd.av).length), (9, .d (nodes L)), (10, .d (i64 (L.length : Int))), (11, .d (i64 (i : Int)))]) (fun i => [.buf false 41 4 ((apI l L i).map Nd.av)]) (fun i => L.length - i) 0 (Nat.zero_le _)
    (Fits_mk (Le_cons rfl (Le_buf rfl rfl (Le_cons rfl (Le_d rfl rfl (Le_cons rfl Le_nil))))) (Pre_buf rfl rfl rfl Pre_nil) rfl rfl) ?_
  intro i hi
  repeat' first
    | refine en_n ?_
    | refine awp_seq ?_
    | refine awp_region ?_
    | refine alex_nil ?_
    | refine w0 ?_
    | (apply k0u (hd := rfl); exact rfl; exact rfl)
    | (refine Y_qcall [1] [] rfl rfl hb_IFb (IFb_ok v l hl) rfl ?_ rfl (by decide) rfl rfl rfl rfl; (repeat (refine SArgs_cons rfl ?_)); exact SArgs_nil)
    | (apply aI (hd := rfl); (first | exact Co_dd rfl | exact Co_bb rfl rfl rfl | exact Co_nn rfl); exact rfl; exact (by first | with_reducible exact es_binds | with_reducible exact es_nodes | with_reducible exact es_ints | with_reducible exact es_nodess | with_reducible exact es_toks | with_reducible exact es_strs | with_reducible exact es_u8s); exact fun _ => rfl; rotate_left; intro v hv; rotate_right)
    | (apply aApp (hd := rfl) (hro := rfl); exact rfl; exact rfl; (first | exact Co_dd rfl | exact Co_bb rfl rfl rfl | exact Co_nn rfl); (first | exact rfl | (simp; done)); exact rfl; exact (by first | with_reducible exact ety_binds | with_reducible exact ety_nodes | with_reducible exact ety_ints | with_reducible exact ety_nodess | with_reducible exact ety_toks | with_reducible exact ety_strs | with_reducible exact ety_u8s); exact (by first | with_reducible exact es_binds | with_reducible exact es_nodes | with_reducible exact es_ints | with_reducible exact es_nodess | with_reducible exact es_toks | with_reducible exact es_strs | with_reducible exact es_u8s); exact (by first | with_reducible exact zl_bind | with_reducible exact zl_node | with_reducible exact zl_int | with_reducible exact zl_nodes | with_reducible exact zl_tok | with_reducible exact zl_str | with_reducible exact zl_i64 | with_reducible exact zl_u8); exact (by first | with_reducible exact by_binds | with_reducible exact by_nodes | with_reducible exact by_ints | with_reducible exact by_nodess | with_reducible exact by_toks | with_reducible exact by_strs | with_reducible exact by_u8s); (first | exact sz_map (fun _ => rfl) | exact sz_lit rfl))
    | (apply aAlloc (hd := rfl) (hro := rfl); exact (by first | with_reducible exact zo_m68 | with_reducible exact zo_f24 | with_reducible exact zo_node | with_reducible exact zon_int | with_reducible exact zo_tok | with_reducible exact zo_int | with_reducible exact zo_i64))
    | apply ay (hd := rfl)
    | (apply Y_move_d; exact rfl)
    | (apply Y_assign_d; exact rfl)
    | (apply Y_field_r; exact rfl; exact (by first | with_reducible exact fb_0 | with_reducible exact fb_1 | with_reducible exact fs_0 | with_reducible exact fs_1 | with_reducible exact fn_0 | with_reducible exact fn_1 | with_reducible exact fn_2 | with_reducible exact fn_3 | with_reducible exact fo_0 | with_reducible exact fo_1 | with_reducible exact fo_2 | with_reducible exact fo_3))
    | (apply Y_load_r1; exact rfl; exact (by first | with_reducible exact tc_bind | with_reducible exact tc_m51 | with_reducible exact tc_m68 | with_reducible exact tc_pst | with_reducible exact tc_pf | with_reducible exact tcn_int | with_reducible exact tc_nodes | with_reducible exact tc_node | with_reducible exact tc_ints | with_reducible exact tcn_kind | with_reducible exact tcn_i64 | with_reducible exact tcn_str | with_reducible exact tcn_bool | with_reducible exact tc_str | with_reducible exact tc_int | with_reducible exact tc_kind | with_reducible exact tc_tok | with_reducible exact tc_u8s | with_reducible exact tc_toks | with_reducible exact tc_strs | with_reducible exact tc_bool | with_reducible exact tc_err | with_reducible exact tc_i64))
    | (apply Y_load_r; exact rfl; exact (by first | with_reducible exact tc_bind | with_reducible exact tc_m51 | with_reducible exact tc_m68 | with_reducible exact tc_pst | with_reducible exact tc_pf | with_reducible exact tcn_int | with_reducible exact tc_nodes | with_reducible exact tc_node | with_reducible exact tc_ints | with_reducible exact tcn_kind | with_reducible exact tcn_i64 | with_reducible exact tcn_str | with_reducible exact tcn_bool | with_reducible exact tc_str | with_reducible exact tc_int | with_reducible exact tc_kind | with_reducible exact tc_tok | with_reducible exact tc_u8s | with_reducible exact tc_toks | with_reducible exact tc_strs | with_reducible exact tc_bool | with_reducible exact tc_err | with_reducible exact tc_i64); exact rfl)
    | (apply Y_lss; exact rfl; exact rfl)
    | (apply Y_neq; exact rfl; exact rfl)
    | (apply Y_add; exact rfl; exact rfl)
    | (apply Y_pick_t; exact rfl; exact rfl)
    | (apply Y_pick_f; exact rfl; exact rfl)
    | (apply Y_move_buf; exact rfl)
    | (apply Y_assign_buf; exact rfl)
    | (apply Y_field_p; exact rfl; exact (by first | with_reducible exact fb_0 | with_reducible exact fb_1 | with_reducible exact fs_0 | with_reducible exact fs_1 | with_reducible exact fn_0 | with_reducible exact fn_1 | with_reducible exact fn_2 | with_reducible exact fn_3 | with_reducible exact fo_0 | with_reducible exact fo_1 | with_reducible exact fo_2 | with_reducible exact fo_3))
    | (apply Y_load_p; exact rfl; exact (by first | with_reducible exact tc_bind | with_reducible exact tc_m51 | with_reducible exact tc_m68 | with_reducible exact tc_pst | with_reducible exact tc_pf | with_reducible exact tcn_int | with_reducible exact tc_nodes | with_reducible exact tc_node | with_reducible exact tc_ints | with_reducible exact tcn_kind | with_reducible exact tcn_i64 | with_reducible exact tcn_str | with_reducible exact tcn_bool | with_reducible exact tc_str | with_reducible exact tc_int | with_reducible exact tc_kind | with_reducible exact tc_tok | with_reducible exact tc_u8s | with_reducible exact tc_toks | with_reducible exact tc_strs | with_reducible exact tc_bool | with_reducible exact tc_err | with_reducible exact tc_i64); exact rfl; exact rfl)
    | (apply Y_load_pa; exact rfl; exact (by first | with_reducible exact tc_bind | with_reducible exact tc_m51 | with_reducible exact tc_m68 | with_reducible exact tc_pst | with_reducible exact tc_pf | with_reducible exact tcn_int | with_reducible exact tc_nodes | with_reducible exact tc_node | with_reducible exact tc_ints | with_reducible exact tcn_kind | with_reducible exact tcn_i64 | with_reducible exact tcn_str | with_reducible exact tcn_bool | with_reducible exact tc_str | with_reducible exact tc_int | with_reducible exact tc_kind | with_reducible exact tc_tok | with_reducible exact tc_u8s | with_reducible exact tc_toks | with_reducible exact tc_strs | with_reducible exact tc_bool | with_reducible exact tc_err | with_reducible exact tc_i64); exact rfl; exact rfl; exact rfl)
    | (apply Y_lit1; exact (by first | with_reducible exact ety_binds | with_reducible exact ety_nodes | with_reducible exact ety_ints | with_reducible exact ety_nodess | with_reducible exact ety_toks | with_reducible exact ety_strs | with_reducible exact ety_u8s); exact (by first | with_reducible exact es_binds | with_reducible exact es_nodes | with_reducible exact es_ints | with_reducible exact es_nodess | with_reducible exact es_toks | with_reducible exact es_strs | with_reducible exact es_u8s); exact (by first | with_reducible exact zs_bind | with_reducible exact zs_node | with_reducible exact zs_int | with_reducible exact zs_nodes | with_reducible exact zs_tok | with_reducible exact zs_str | with_reducible exact zs_i64 | with_reducible exact zs_u8); exact rfl; exact rfl; (first | exact CoL_d rfl CoL_nil | exact CoL_b rfl rfl rfl CoL_nil | exact CoL_n rfl CoL_nil); exact rfl)
    | (apply Y_mkf; exact rfl)
    | (apply w1; exact rfl; exact rfl)
    | (apply gD; exact rfl; exact rfl; (intro hb); rotate_left; (intro hb); rotate_right)
    | (refine w0' ?_)
    | (apply aStore; exact rfl; exact rfl; exact rfl; exact (by first | with_reducible exact tc_bind | with_reducible exact tc_m51 | with_reducible exact tc_m68 | with_reducible exact tc_pst | with_reducible exact tc_pf | with_reducible exact tcn_int | with_reducible exact tc_nodes | with_reducible exact tc_node | with_reducible exact tc_ints | with_reducible exact tcn_kind | with_reducible exact tcn_i64 | with_reducible exact tcn_str | with_reducible exact tcn_bool | with_reducible exact tc_str | with_reducible exact tc_int | with_reducible exact tc_kind | with_reducible exact tc_tok | with_reducible exact tc_u8s | with_reducible exact tc_toks | with_reducible exact tc_strs | with_reducible exact tc_bool | with_reducible exact tc_err | with_reducible exact tc_i64); exact rfl; exact rfl; exact rfl; exact rfl)
    | (apply awp_condD; exact rfl; (intro hb); rotate_left; (intro hb); rotate_right)
    | (apply awp_condT; exact rfl)
    | refine awp_block ?_
    | refine awp_skip ?_
    | refine awp_ret ?_
    | refine awp_exit ?_
    | refine en_e ?_
    | refine eb_n ?_
    | refine eb_e ?_
    | refine rpost_ret ?_
    | (apply res1b; exact rfl; exact rfl; (first | exact rfl | (simp; done)))
  all_goals first | omega | skip
  · have := hbd i; simp only [List.length_map, List.length_singleton]; omega
  · have e := apI_succ (l := l) (i := i) hv
    rw [app1, if_neg hb] at e
    exact ⟨i + 1, by omega, by omega, Fits_mk (Le_cons rfl (Le_buf rfl (by rw [e]; simp) (Le_cons rfl (Le_cons rfl (Le_cons rfl Le_nil))))) (Pre_buf rfl rfl (by rw [e, List.map_append]; rfl) Pre_nil) rfl rfl⟩
  · have := hbd i; simp only [List.length_map, List.length_singleton]; omega
  · have e := apI_succ (l := l) (i := i) hv
    rename_i hk
    rcases find_idxP (p := fun b : Bd => decide (b.var = v.num)) (l := l) with ⟨f1, _⟩ | ⟨k, x, _, f2, _⟩
    · rw [app1, if_pos (by omega), f1] at e
      exact ⟨i + 1, by omega, by omega, Fits_mk (Le_cons rfl (Le_buf rfl (by rw [e]; simp) (Le_cons rfl (Le_cons rfl (Le_cons rfl Le_nil))))) (Pre_buf rfl rfl (by rw [e, List.map_append]; rfl) Pre_nil) rfl rfl⟩
    · omega
  · rcases find_idxP (p := fun b : Bd => decide (b.var = v.num)) (l := l) with ⟨_, f2⟩ | ⟨k, x, f1, f2, _⟩
    · omega
    · have := (List.getElem?_eq_some_iff.1 f1).1; omega
  · have := hbd i
    have := hM v (List.mem_of_getElem? hv)
    simp only [List.length_map]; omega
  · rename_i v0 hv0 hk
    have e := apI_succ (l := l) (i := i) hv0
    rcases find_idxP (p := fun b : Bd => decide (b.var = v0.num)) (l := l) with ⟨_, f2⟩ | ⟨k, x, f1, f2, f3⟩
    · omega
    · rw [f2, Int.toNat_natCast, f1] at hv
      injection hv with hv; subst hv
      rw [app1, if_pos (by omega), f3] at e
      exact ⟨i + 1, by omega, by omega, Fits_mk (Le_cons rfl (Le_buf rfl (by rw [e]; simp) (Le_cons rfl (Le_cons rfl (Le_cons rfl Le_nil))))) (Pre_buf rfl rfl (by rw [e, List.map_append]) Pre_nil) rfl rfl⟩
  · have e : apI l L i = applyF l L := by unfold apI applyF; rw [List.take_of_length_le (by omega)]
    rw [e]; rfl
end Go.Proofs.YtamhkcnpocdfcaaGreatDoor
/- The statements on types: the plain functions of a store, by fuel; how its map reads. -/
namespace Go.Proofs.YtamhkcnpocdfcaaGreatDoor
open Go.Sx

/-- what variables are -/
abbrev Sto := List (Int × List Nd)
abbrev Seen := List (Int × Int)
def lookA {β : Type} : List (Int × β) → Int → Option β
  | [], _ => none
  | (k, d) :: r, a => if k = a then some d else lookA r a
def putA {β : Type} : List (Int × β) → Int → β → List (Int × β)
  | [], a, d => [(a, d)]
  | (k, e) :: r, a, d => if k = a then (k, d) :: r else (k, e) :: putA r a d
def encA {β : Type} (f : β → D) (L : List (Int × β)) : List (Int × D) := L.map fun p => (p.1, f p.2)
theorem lookK_enc {β : Type} (f : β → D) : ∀ (L : List (Int × β)) (a : Int), lookK (encA f L) a = (lookA L a).map f
  | [], a => rfl
  | (k, d) :: r, a => by
    simp only [encA, List.map_cons, lookK, lookA]
    split
    · rfl
    · exact lookK_enc f r a
theorem putK_enc {β : Type} (f : β → D) : ∀ (L : List (Int × β)) (a : Int) (d : β), putK (encA f L) a (f d) = encA f (putA L a d)
  | [], a, d => rfl
  | (k, e) :: r, a, d => by
    simp only [encA, List.map_cons, putK, putA]
    split
    · rfl
    · simp only [List.map_cons]; congr 1; exact putK_enc f r a d
abbrev ki : Int → Value := fun a => Value.int .i64 a
abbrev mSto (L : Sto) : List (Value × D) := kvs ki (encA nodes L)
abbrev mSeen (L : Seen) : List (Value × D) := kvs ki (encA i64 L)
/-- the store, as memory has it: its struct, its map -/
abbrev stO (nx : Int) (L : Sto) : List Ob := [.bx none none [.d (i64 nx), .mp 1], .map none (mSto L)]

theorem look_sto (L : Sto) (a : Int) : (lookK (encA nodes L) a).getD (.slice []) = nodes ((lookA L a).getD []) ∧ (lookK (encA nodes L) a).isSome = (lookA L a).isSome := by
  rw [lookK_enc]; cases lookA L a <;> exact ⟨rfl, rfl⟩
theorem look_seen (L : Seen) (a : Int) : (lookK (encA i64 L) a).getD (.val (.int .i64 0)) = i64 ((lookA L a).getD 0) := by
  rw [lookK_enc]; cases lookA L a <;> rfl

def headF : Nat → Sto → List Nd → Option (List Nd)
  | 0, _, _ => none
  | n + 1, L, t => match t[0]? with
    | none => none
    | some x => if x.kind = 31 then (match lookA L x.num with | some u => headF n L u | none => some t) else some t

def catO {α : Type} (f : α → Option (List Nd)) : List α → Option (List Nd)
  | [] => some []
  | x :: r => match f x, catO f r with
    | some a, some b => some (a ++ b)
    | _, _ => none
/-- a type with all that is known -/
def resF : Nat → Sto → List Nd → Option (List Nd)
  | 0, _, _ => none
  | n + 1, L, t => catO (fun (x : Nd) => if x.kind = 31 then (match lookA L x.num with | some u => resF n L u | none => some [x]) else some [x]) t

/-- one after another, as long as there is something -/
def foldO {α β : Type} (f : β → α → Option β) : β → List α → Option β
  | b, [] => some b
  | b, x :: r => match f b x with
    | some c => foldO f c r
    | none => none
def sizeF : Nat → Sto → List Nd → Seen → Option (Int × Seen)
  | 0, _, _, _ => none
  | n + 1, L, t, S => foldO (fun (p : Int × Seen) (x : Nd) =>
      if x.kind = 31 then (match lookA L x.num with
        | some u => if (lookA p.2 x.num).getD 0 > 0 then some (min (p.1 + (lookA p.2 x.num).getD 0) 4001, p.2) else (match sizeF n L u p.2 with
          | some (m, S') => some (min (p.1 + m) 4001, putA S' x.num m)
          | none => none)
        | none => some (min (p.1 + 1) 4001, p.2))
      else some (min (p.1 + 1) 4001, p.2)) (0, S) t

/-- is v part of it? what was seen -/
def inF : Nat → Sto → Int → List Nd → Seen → Option (Bool × Seen)
  | 0, _, _, _, _ => none
  | n + 1, L, v, t, S => foldO (fun (p : Bool × Seen) (x : Nd) =>
      if p.1 then some p
      else if x.kind ≠ 31 ∨ (lookA p.2 x.num).getD 0 > 0 then some p
      else if x.num = v then some (true, putA p.2 x.num ((lookA p.2 x.num).getD 0 + 1))
      else inF n L v ((lookA L x.num).getD []) (putA p.2 x.num ((lookA p.2 x.num).getD 0 + 1))) (false, S) t

/-- a part of a list, if it is one -/
def cutO (t : List Nd) (a b : Int) : Option (List Nd) := if 0 ≤ a ∧ a ≤ b ∧ b ≤ t.length then some ((t.take b.toNat).drop a.toNat) else none
def sameF : Nat → Sto → List Nd → List Nd → Option (Int × Sto)
  | 0, _, _, _ => none
  | n + 1, L, a0, b0 => match headF n L a0, headF n L b0 with
    | some a, some b => match a[0]?, b[0]? with
      | some x, some y =>
        if a.length > 4000 ∨ b.length > 4000 then none
        else if x.kind = 31 ∧ y.kind = 31 then (if x.num ≠ y.num then some (0, putA L (max x.num y.num) (varN (min x.num y.num))) else some (0, L))
        else if y.kind = 31 then sameF n L b a
        else if x.kind = 31 then (match inF n L x.num b [] with
          | some (true, _) => some (91, L)
          | some (false, _) => some (0, putA L x.num b)
          | none => none)
        else if x ≠ y then some (91, L)
        else foldO (fun (p : Int × Sto) (i : Nat) => if p.1 ≠ 0 then some p else
            match (kidsF a 0)[i]?, (kidsF b 0)[i]? with
            | some k, some l => (match cutO a k (endF a k), cutO b l (endF b l) with
              | some u, some v => sameF n p.2 u v
              | _, _ => none)
            | _, _ => none) (0, L) (List.range (kidsF a 0).length)
      | _, _ => none
    | _, _ => none

/-! ### a look at a key of which it is known what it has -/
section
variable {P : Program} {η : List Ob} {σ : Sl} {dst : Option Nat} {ty : TypeId} {pos : String} {after : Array Edge} {gd : Option (Nat × Bool)} {t : TypeId} {x y : Operand}
theorem Y_lookOkIv {id k e : Nat} {q : IntKind} {kb : Option Nat} {L : List (Int × D)} {a : Int} {zd d : D} {b : Bool} (hl : (lookK L a).getD zd = d ∧ (lookK L a).isSome = b) (hx : oval σ x = .mp id) (ho : η[id]? = some (.map kb (kvs (fun a => .int q a) L))) (hy : oval σ y = .d (.val (.int q a))) (ht : mapTy P t = some (k, e)) (hk : P.underlying k = some (.int q)) (hz : zero1 P e = some zd) :
    Ylds P η σ ⟨dst, .lookup t x y true, ty, pos, after, gd⟩ (.d (.tup [d, .val (.bool b)])) := by
  obtain ⟨rfl, rfl⟩ := hl; exact Y_lookOkI hx ho hy ht hk hz
theorem Y_lookIv {id k e : Nat} {q : IntKind} {kb : Option Nat} {L : List (Int × D)} {a : Int} {zd d : D} (hl : (lookK L a).getD zd = d) (hx : oval σ x = .mp id) (ho : η[id]? = some (.map kb (kvs (fun a => .int q a) L))) (hy : oval σ y = .d (.val (.int q a))) (ht : mapTy P t = some (k, e)) (hk : P.underlying k = some (.int q)) (hz : zero1 P e = some zd) :
    Ylds P η σ ⟨dst, .lookup t x y false, ty, pos, after, gd⟩ (.d d) := by
  subst hl; exact Y_lookI hx ho hy ht hk hz
end
section
variable {C : Ctx} {ops : Array Oper} {rest : List Oper} {K : Sl → List Ob → Prop} {σ : Sl} {η : List Ob} {ty : TypeId} {pos : String} {after : Array Edge} {gd : Option (Nat × Bool)} {t : TypeId} {x y z : Operand}
theorem aMapPutV {id k e : Nat} {q : IntKind} {kb : Option Nat} {L L' : List (Int × D)} {a : Int} {dv : D} (hp : putK L a dv = L') (hx : oval σ x = .mp id) (ho : η[id]? = some (.map kb (kvs (fun a => .int q a) L))) (hy : oval σ y = .d (.val (.int q a))) (hz : Co η (oval σ z) dv) (ht : mapTy C.P t = some (k, e)) (hk : C.P.underlying k = some (.int q)) (hro : Nat.ble C.ro id = true)
    (h : alex C false ops rest K σ (η.set id (.map kb (kvs (fun a => .int q a) L')))) : astep C false ops ⟨none, .mapUpdate t x y z, ty, pos, after, gd⟩ rest K σ η := by
  subst hp; exact aMapPut hx ho hy hz ht (intKey hk) hro h
end
theorem sto_some {L : Sto} {a : Int} {u : List Nd} (h : lookA L a = some u) : (lookK (encA nodes L) a).getD (.slice []) = nodes u ∧ (lookK (encA nodes L) a).isSome = true := by
  obtain ⟨h1, h2⟩ := look_sto L a; rw [h1, h2, h]; exact ⟨rfl, rfl⟩
theorem sto_none {L : Sto} {a : Int} (h : lookA L a = none) : (lookK (encA nodes L) a).getD (.slice []) = nodes [] ∧ (lookK (encA nodes L) a).isSome = false := by
  obtain ⟨h1, h2⟩ := look_sto L a; rw [h1, h2, h]; exact ⟨rfl, rfl⟩
theorem lookA_mem {β : Type} : ∀ {L : List (Int × β)} {a : Int} {d : β}, lookA L a = some d → (a, d) ∈ L
  | (k, e) :: r, a, d, h => by
    unfold lookA at h
    split at h
    · rename_i hk; injection h with h; subst h; subst hk; simp
    · exact List.mem_cons_of_mem _ (lookA_mem h)
  | [], _, _, h => by cases h
end Go.Proofs.YtamhkcnpocdfcaaGreatDoor
