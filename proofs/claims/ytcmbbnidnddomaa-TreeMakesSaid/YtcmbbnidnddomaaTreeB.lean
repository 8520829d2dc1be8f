/- The tree statements: the walks of Whole, the reference's End and Whole, Kids (both), Index, Contains. -/
import Derived.Test.YtcmbbnidnddomaaTreeA
namespace Go.Proofs.Ytcmbbnidnddomaa
open Go.Sx
attribute [local irreducible] Ylds astep alex alexE alexD awp PCall FCall RCall athen ablock ajump rpost fpost

theorem hb_rEnd : hasBody Try.prog 10 = true := by kernel_rfl

def wholeF (L : List Nd) : Bool := decide (L.length > 0) && decide (endF L 0 = L.length)

theorem Whole_ok (L : List Nd) (hL : L.length ≤ 1000000) : PCall Try.prog 14 [nodes L] (bl (wholeF L)) := by
  refine pcall_of Try.func14 rfl Try.ntmps14 Try.results14 rfl ?_
  intro wb St0
  repeat' first
    | refine en_n ?_
    | refine awp_seq ?_
    | refine awp_region ?_
    | refine alex_nil ?_
    | refine w0 ?_
    | (apply Y_call (hb := hb_End) (hc := End_ok L _ hL))
    | (apply aJ (hd := rfl); (first | exact Co_dd rfl | exact Co_bb rfl rfl rfl | exact Co_nn rfl); exact rfl; exact (by first | exact es_nodes | exact es_ints | exact es_nodess); assumption; omega; exact fun _ => rfl)
    | (apply aI (hd := rfl); (first | exact Co_dd rfl | exact Co_bb rfl rfl rfl | exact Co_nn rfl); exact rfl; exact (by first | exact es_nodes | exact es_ints | exact es_nodess); exact fun _ => rfl; rotate_left; intro v hv; rotate_right)
    | (apply aApp (hd := rfl) (hro := rfl); exact rfl; exact rfl; (first | exact Co_dd rfl | exact Co_bb rfl rfl rfl | exact Co_nn rfl); (first | exact rfl | (simp; done)); exact rfl; exact (by first | exact ety_nodes | exact ety_ints | exact ety_nodess); exact (by first | exact es_nodes | exact es_ints | exact es_nodess); exact (by first | exact zl_node | exact zl_int | exact zl_nodes); exact (by first | exact by_nodes | exact by_ints | exact by_nodess); (first | exact sz_map (fun _ => rfl) | exact sz_lit rfl))
    | (apply aBox (hd := rfl) (hro := rfl); exact rfl; exact rfl)
    | (apply aAlloc (hd := rfl) (hro := rfl); exact (by first | exact zo_node | exact zo_int))
    | apply ay (hd := rfl)
    | (apply Y_move_d; exact rfl)
    | (apply Y_assign_d; exact rfl)
    | (apply Y_field_r; exact rfl; exact (by first | exact fo_0 | exact fo_1 | exact fo_2 | exact fo_3))
    | (apply Y_load_r1; exact rfl; exact (by first | exact tc_int | exact tc_nodes | exact tc_node | exact tc_ints | exact tc_kind | exact tc_i64 | exact tc_str | exact tc_bool))
    | (apply Y_load_r; exact rfl; exact (by first | exact tc_int | exact tc_nodes | exact tc_node | exact tc_ints | exact tc_kind | exact tc_i64 | exact tc_str | exact tc_bool); exact rfl)
    | (apply Y_len_m; exact rfl; exact (by first | exact et_nodes | exact et_ints | exact et_nodess))
    | (apply Y_len_d; exact rfl; exact (by first | exact et_nodes | exact et_ints | exact et_nodess))
    | (apply Y_lss; exact rfl; exact rfl)
    | (apply Y_leq; exact rfl; exact rfl)
    | (apply Y_gtr; exact rfl; exact rfl)
    | (apply Y_geq; exact rfl; exact rfl)
    | (apply Y_eql; exact rfl; exact rfl)
    | (apply Y_neq; exact rfl; exact rfl)
    | (apply Y_add; exact rfl; exact rfl)
    | (apply Y_sub; exact rfl; exact rfl)
    | (apply Y_mul; exact rfl; exact rfl)
    | (apply Y_not; exact rfl)
    | (apply Y_pick_t; exact rfl; exact rfl)
    | (apply Y_pick_f; exact rfl; exact rfl)
    | (apply Y_extract; exact rfl; exact rfl)
    | (apply Y_max; exact rfl; exact rfl)
    | (apply Y_move_nil; exact rfl)
    | (apply Y_assign_nil; exact rfl)
    | (apply Y_move_buf; exact rfl)
    | (apply Y_assign_buf; exact rfl)
    | (apply Y_len_buf; exact rfl; exact (by first | exact et_nodes | exact et_ints | exact et_nodess))
    | (apply Y_len_nil; exact rfl; exact (by first | exact et_nodes | exact et_ints | exact et_nodess))
    | (apply Y_move_ptr; exact rfl)
    | (apply Y_assign_ptr; exact rfl)
    | (apply Y_move_clo; exact rfl)
    | (apply Y_assign_clo; exact rfl)
    | (apply Y_field_p; exact rfl; exact (by first | exact fo_0 | exact fo_1 | exact fo_2 | exact fo_3))
    | (apply Y_load_p; exact rfl; exact (by first | exact tc_int | exact tc_nodes | exact tc_node | exact tc_ints | exact tc_kind | exact tc_i64 | exact tc_str | exact tc_bool); exact rfl; exact rfl)
    | (apply Y_load_pa; exact rfl; exact (by first | exact tc_int | exact tc_nodes | exact tc_node | exact tc_ints | exact tc_kind | exact tc_i64 | exact tc_str | exact tc_bool); exact rfl; exact rfl; exact rfl)
    | (apply Y_sl; (first | exact Co_dd rfl | exact Co_bb rfl rfl rfl | exact Co_nn rfl); exact (by first | exact es_nodes | exact es_ints | exact es_nodess); exact rfl; exact rfl; exact fun _ => rfl)
    | (apply Y_sl_l; (first | exact Co_dd rfl | exact Co_bb rfl rfl rfl | exact Co_nn rfl); exact (by first | exact es_nodes | exact es_ints | exact es_nodess); exact rfl; exact fun _ => rfl)
    | (apply Y_sl_h; (first | exact Co_dd rfl | exact Co_bb rfl rfl rfl | exact Co_nn rfl); exact (by first | exact es_nodes | exact es_ints | exact es_nodess); exact rfl; exact fun _ => rfl)
    | (apply Y_lit0; exact (by first | exact ety_nodes | exact ety_ints | exact ety_nodess); exact (by first | exact es_nodes | exact es_ints | exact es_nodess); exact (by first | exact zs_node | exact zs_int | exact zs_nodes); exact rfl)
    | (apply Y_lit1; exact (by first | exact ety_nodes | exact ety_ints | exact ety_nodess); exact (by first | exact es_nodes | exact es_ints | exact es_nodess); exact (by first | exact zs_node | exact zs_int | exact zs_nodes); exact rfl; exact rfl; (first | exact CoL_d rfl CoL_nil | exact CoL_b rfl rfl rfl CoL_nil | exact CoL_n rfl CoL_nil); exact rfl)
    | (apply Y_lit2; exact (by first | exact ety_nodes | exact ety_ints | exact ety_nodess); exact (by first | exact es_nodes | exact es_ints | exact es_nodess); exact (by first | exact zs_node | exact zs_int | exact zs_nodes); exact rfl; exact rfl; (first | exact CoL_d rfl (CoL_d rfl CoL_nil) | exact CoL_b rfl rfl rfl (CoL_b rfl rfl rfl CoL_nil)); exact rfl)
    | (apply Y_lit3; exact (by first | exact ety_nodes | exact ety_ints | exact ety_nodess); exact (by first | exact es_nodes | exact es_ints | exact es_nodess); exact (by first | exact zs_node | exact zs_int | exact zs_nodes); exact rfl; exact rfl; (exact CoL_d rfl (CoL_d rfl (CoL_d rfl CoL_nil))); exact rfl)
    | (apply Y_lit4; exact (by first | exact ety_nodes | exact ety_ints | exact ety_nodess); exact (by first | exact es_nodes | exact es_ints | exact es_nodess); exact (by first | exact zs_node | exact zs_int | exact zs_nodes); exact rfl; exact rfl; (exact CoL_d rfl (CoL_d rfl (CoL_d rfl (CoL_d rfl CoL_nil)))); exact rfl)
    | (apply Y_mkf; exact rfl)
    | (apply w1; exact rfl; exact rfl)
    | (apply k1 (hd := rfl); exact rfl; exact rfl)
    | (apply k0 (hd := rfl); exact rfl; exact rfl)
    | (apply gD; exact rfl; exact rfl; (intro hb); rotate_left; (intro hb); rotate_right)
    | (apply gN; exact rfl; exact rfl; (intro hb); rotate_left; (intro hb); rotate_right)
    | (apply g1; exact rfl; exact rfl; (intro hb); rotate_left; (intro hb); rotate_right)
    | (refine w0' ?_)
    | (apply aStore; exact rfl; exact rfl; exact rfl; exact (by first | exact tc_int | exact tc_nodes | exact tc_node | exact tc_ints | exact tc_kind | exact tc_i64 | exact tc_str | exact tc_bool); exact rfl; exact rfl; exact rfl; exact rfl)
    | (apply awp_condD; exact rfl; (intro hb); rotate_left; (intro hb); rotate_right)
    | (apply awp_condN; exact rfl; (intro hb); rotate_left; (intro hb); rotate_right)
    | (apply awp_condT; exact rfl)
    | (apply awp_condF; exact rfl)
    | (apply awp_cond; exact rfl; (intro hb); rotate_left; (intro hb); rotate_right)
    | refine awp_block ?_
    | refine awp_skip ?_
    | refine awp_ret ?_
    | refine awp_exit ?_
    | refine awp_label ?_
    | refine awp_goto ?_
    | refine awp_draw (by kernel_rfl) (by kernel_rfl) ?_
    | refine en_r ?_
    | refine en_e ?_
    | refine eb_n ?_
    | refine eb_r ?_
    | refine eb_e ?_
    | refine eb_o rfl ?_
    | refine en_g ?_
    | refine eb_g ?_
    | refine ej_n ?_
    | refine ej_r ?_
    | refine ej_e ?_
    | refine ej_g ?_
    | refine rpost_ret ?_
    | (apply res1; exact rfl)
    | (apply res1n; exact rfl)
    | (apply res1b; exact rfl; exact rfl; (first | exact rfl | (simp; done)))
    | (apply res2; exact rfl; exact rfl)
    | (apply res2n; exact rfl; exact rfl)
    | (apply res2b; exact rfl; exact rfl; (first | exact rfl | (simp; done)); exact rfl)
    | exact CoL_nil
    | refine CoL_d rfl ?_
    | refine CoL_b rfl rfl rfl ?_
    | refine CoL_n rfl ?_
    | refine CoL_v rfl ?_
  · have h : 0 < L.length := by omega
    simp [wholeF, h]
  · have h : ¬ 0 < L.length := by omega
    simp [wholeF, h]

/-! ### the trees behind one another -/
theorem endGo_neg {n : Nat} : ∀ (r : List Nd) (o a : Int), 0 ≤ a → endGo n r o a = -1 ∨ a < endGo n r o a ∧ endGo n r o a ≤ a + r.length
  | [], _, _, _ => .inl rfl
  | x :: r, o, a, ha => by
    unfold endGo
    split
    · exact .inl rfl
    · split
      · rcases endGo_neg r (o + (x.kids - 1)) (a + 1) (by omega) with h | h
        · exact .inl h
        · refine .inr ⟨by omega, ?_⟩; simp only [List.length_cons]; omega
      · refine .inr ⟨by omega, ?_⟩; simp only [List.length_cons]; omega

theorem endF_bd (L : List Nd) (a : Int) : endF L a = -1 ∨ (0 ≤ a ∧ a < endF L a ∧ endF L a ≤ L.length) := by
  unfold endF
  split
  · exact .inl rfl
  · rcases endGo_neg (n := L.length) (L.drop a.toNat) 1 a (by omega) with h | h
    · exact .inl h
    · refine .inr ⟨by omega, h.1, ?_⟩
      have h2 := h.2
      rw [List.length_drop] at h2
      rcases Nat.lt_or_ge a.toNat L.length with h3 | h3
      · omega
      · have h4 := h.1
        rw [List.drop_of_length_le h3] at h4
        simp only [endGo] at h4; omega

/-- p trees and q behind them -/
theorem endGo_add (L : List Nd) : ∀ (m k : Nat) (p q : Int), L.length - k ≤ m → 1 ≤ p → 1 ≤ q → endGo L.length (L.drop k) (p + q) k = if endGo L.length (L.drop k) p k < 0 then -1 else endGo L.length (L.drop (endGo L.length (L.drop k) p k).toNat) q (endGo L.length (L.drop k) p k) := by
  intro m
  induction m with
  | zero =>
    intro k p q hm _ _
    rw [endGo_none (by omega), endGo_none (by omega)]; rfl
  | succ m ih =>
    intro k p q hm hp hq
    rcases Nat.lt_or_ge k L.length with hk | hk
    · have hv : L[k]? = some L[k] := List.getElem?_eq_getElem hk
      rw [endGo_some hv, endGo_some hv]
      by_cases hbad : L[k].kids < 0 ∨ L[k].kids > L.length
      · rw [if_pos hbad, if_pos hbad]; rfl
      · rw [if_neg hbad, if_neg hbad]
        rw [if_pos (show p + q + (L[k].kids - 1) > 0 by omega)]
        by_cases h1 : p + (L[k].kids - 1) > 0
        · rw [if_pos h1]
          have := ih (k + 1) (p + (L[k].kids - 1)) q (by omega) (by omega) hq
          rw [show p + q + (L[k].kids - 1) = p + (L[k].kids - 1) + q by omega]
          exact this
        · rw [if_neg h1, if_neg (by omega)]
          rw [show p + q + (L[k].kids - 1) = q by omega]
          rfl
    · rw [endGo_none hk, endGo_none hk]; rfl

/-- i trees behind one another from a place on -/
def seqE (L : List Nd) (a : Int) : Nat → Int
  | 0 => a
  | i + 1 => if seqE L a i < 0 then -1 else endF L (seqE L a i)

theorem seqE_eq (L : List Nd) (k : Nat) : ∀ (i : Nat), seqE L k (i + 1) = endGo L.length (L.drop k) (i + 1) k
  | 0 => by
    have h0 : ¬ seqE L (k : Int) 0 < 0 := by simp only [seqE]; omega
    have h1 : ¬ (k : Int) < 0 := by omega
    unfold seqE
    rw [if_neg h0]
    show endF L (k : Int) = _
    rw [endF, if_neg h1, Int.toNat_natCast]; rfl
  | i + 1 => by
    have ih := seqE_eq L k i
    show (if seqE L k (i + 1) < 0 then _ else _) = _
    rw [ih, show ((i + 1 : Nat) : Int) + 1 = (i : Int) + 1 + 1 by omega, endGo_add L _ k ((i : Int) + 1) 1 (Nat.le_refl _) (by omega) (by omega)]
    split
    · rfl
    · rename_i h; rw [endF, if_neg h]

theorem endF_rec {L : List Nd} {k : Nat} {x : Nd} (h : L[k]? = some x) : endF L k = if x.kids < 0 ∨ x.kids > L.length then -1 else seqE L ((k : Int) + 1) x.kids.toNat := by
  rw [endF, if_neg (by omega), Int.toNat_natCast, endGo_some h]
  split
  · rfl
  · rename_i hb
    by_cases h1 : 1 + (x.kids - 1) > 0
    · rw [if_pos h1]
      obtain ⟨i, hi⟩ : ∃ i : Nat, x.kids.toNat = i + 1 := ⟨x.kids.toNat - 1, by omega⟩
      rw [hi]
      have := seqE_eq L (k + 1) i
      rw [show ((k + 1 : Nat) : Int) = (k : Int) + 1 by omega] at this
      rw [this]
      congr 1
      omega
    · rw [if_neg h1]
      have : x.kids.toNat = 0 := by omega
      rw [this]; rfl

theorem seqE_neg {L : List Nd} {a : Int} {i : Nat} (h : seqE L a i < 0) : ∀ j, i ≤ j → seqE L a j < 0 := by
  intro j hj
  induction j with
  | zero => rw [show i = 0 by omega] at h; exact h
  | succ j ih =>
    rcases Nat.lt_or_ge j i with h1 | h1
    · rw [show j + 1 = i by omega]; exact h
    · show (if seqE L a j < 0 then _ else _) < 0
      rw [if_pos (ih h1)]; omega

theorem seqE_succ {L : List Nd} {a : Int} {i : Nat} (h : 0 ≤ seqE L a i) : seqE L a (i + 1) = endF L (seqE L a i) := by
  show (if seqE L a i < 0 then _ else _) = _
  rw [if_neg (by omega)]
theorem seqE_ge {L : List Nd} {a : Int} : ∀ {i : Nat}, 0 ≤ seqE L a i → a + i ≤ seqE L a i
  | 0, _ => by simp only [seqE]; omega
  | i + 1, h => by
    rcases Int.lt_or_le (seqE L a i) 0 with h1 | h1
    · have := seqE_neg h1 (i + 1) (by omega); omega
    · have := seqE_ge h1
      rw [seqE_succ h1] at h ⊢
      rcases endF_bd L (seqE L a i) with h2 | h2 <;> omega
theorem seqE_neg1 {L : List Nd} {a : Int} (ha : 0 ≤ a) : ∀ {i : Nat}, seqE L a i < 0 → seqE L a i = -1
  | 0, h => by change a < 0 at h; omega
  | i + 1, h => by
    change (if seqE L a i < 0 then _ else _) < 0 at h
    show (if seqE L a i < 0 then _ else _) = _
    split
    · rfl
    · rename_i h1; rw [if_neg h1] at h; rcases endF_bd L (seqE L a i) with h2 | h2 <;> omega

theorem endF_out {L : List Nd} {a : Int} (h : a < 0 ∨ (L.length : Int) ≤ a) : endF L a = -1 := by
  rcases endF_bd L a with h1 | h1 <;> omega

/-- the reference's End is the same -/
theorem rEnd_ok (L : List Nd) (hL : L.length ≤ 1000000) : ∀ (m : Nat) (at_ : Int), (L.length : Int) - at_ ≤ m → PCall Try.prog 10 [nodes L, i64 at_] (i64 (endF L at_)) := by
  intro m
  induction m with
  | zero =>
    intro at_ hm
    refine pcall_of Try.func10 rfl Try.ntmps10 Try.results10 rfl ?_
    intro wb St0
    repeat' first
      | refine en_n ?_
      | refine awp_seq ?_
      | refine awp_region ?_
      | refine alex_nil ?_
      | refine w0 ?_
      | (apply aJ (hd := rfl); (first | exact Co_dd rfl | exact Co_bb rfl rfl rfl | exact Co_nn rfl); exact rfl; exact (by first | exact es_nodes | exact es_ints | exact es_nodess); assumption; omega; exact fun _ => rfl)
      | (apply aI (hd := rfl); (first | exact Co_dd rfl | exact Co_bb rfl rfl rfl | exact Co_nn rfl); exact rfl; exact (by first | exact es_nodes | exact es_ints | exact es_nodess); exact fun _ => rfl; rotate_left; intro v hv; rotate_right)
      | (apply aApp (hd := rfl) (hro := rfl); exact rfl; exact rfl; (first | exact Co_dd rfl | exact Co_bb rfl rfl rfl | exact Co_nn rfl); (first | exact rfl | (simp; done)); exact rfl; exact (by first | exact ety_nodes | exact ety_ints | exact ety_nodess); exact (by first | exact es_nodes | exact es_ints | exact es_nodess); exact (by first | exact zl_node | exact zl_int | exact zl_nodes); exact (by first | exact by_nodes | exact by_ints | exact by_nodess); (first | exact sz_map (fun _ => rfl) | exact sz_lit rfl))
      | (apply aBox (hd := rfl) (hro := rfl); exact rfl; exact rfl)
      | (apply aAlloc (hd := rfl) (hro := rfl); exact (by first | exact zo_node | exact zo_int))
      | apply ay (hd := rfl)
      | (apply Y_move_d; exact rfl)
      | (apply Y_assign_d; exact rfl)
      | (apply Y_field_r; exact rfl; exact (by first | exact fo_0 | exact fo_1 | exact fo_2 | exact fo_3))
      | (apply Y_load_r1; exact rfl; exact (by first | exact tc_int | exact tc_nodes | exact tc_node | exact tc_ints | exact tc_kind | exact tc_i64 | exact tc_str | exact tc_bool))
      | (apply Y_load_r; exact rfl; exact (by first | exact tc_int | exact tc_nodes | exact tc_node | exact tc_ints | exact tc_kind | exact tc_i64 | exact tc_str | exact tc_bool); exact rfl)
      | (apply Y_len_m; exact rfl; exact (by first | exact et_nodes | exact et_ints | exact et_nodess))
      | (apply Y_len_d; exact rfl; exact (by first | exact et_nodes | exact et_ints | exact et_nodess))
      | (apply Y_lss; exact rfl; exact rfl)
      | (apply Y_leq; exact rfl; exact rfl)
      | (apply Y_gtr; exact rfl; exact rfl)
      | (apply Y_geq; exact rfl; exact rfl)
      | (apply Y_eql; exact rfl; exact rfl)
      | (apply Y_neq; exact rfl; exact rfl)
      | (apply Y_add; exact rfl; exact rfl)
      | (apply Y_sub; exact rfl; exact rfl)
      | (apply Y_mul; exact rfl; exact rfl)
      | (apply Y_not; exact rfl)
      | (apply Y_pick_t; exact rfl; exact rfl)
      | (apply Y_pick_f; exact rfl; exact rfl)
      | (apply Y_extract; exact rfl; exact rfl)
      | (apply Y_max; exact rfl; exact rfl)
      | (apply Y_move_nil; exact rfl)
      | (apply Y_assign_nil; exact rfl)
      | (apply Y_move_buf; exact rfl)
      | (apply Y_assign_buf; exact rfl)
      | (apply Y_len_buf; exact rfl; exact (by first | exact et_nodes | exact et_ints | exact et_nodess))
      | (apply Y_len_nil; exact rfl; exact (by first | exact et_nodes | exact et_ints | exact et_nodess))
      | (apply Y_move_ptr; exact rfl)
      | (apply Y_assign_ptr; exact rfl)
      | (apply Y_move_clo; exact rfl)
      | (apply Y_assign_clo; exact rfl)
      | (apply Y_field_p; exact rfl; exact (by first | exact fo_0 | exact fo_1 | exact fo_2 | exact fo_3))
      | (apply Y_load_p; exact rfl; exact (by first | exact tc_int | exact tc_nodes | exact tc_node | exact tc_ints | exact tc_kind | exact tc_i64 | exact tc_str | exact tc_bool); exact rfl; exact rfl)
      | (apply Y_load_pa; exact rfl; exact (by first | exact tc_int | exact tc_nodes | exact tc_node | exact tc_ints | exact tc_kind | exact tc_i64 | exact tc_str | exact tc_bool); exact rfl; exact rfl; exact rfl)
      | (apply Y_sl; (first | exact Co_dd rfl | exact Co_bb rfl rfl rfl | exact Co_nn rfl); exact (by first | exact es_nodes | exact es_ints | exact es_nodess); exact rfl; exact rfl; exact fun _ => rfl)
      | (apply Y_sl_l; (first | exact Co_dd rfl | exact Co_bb rfl rfl rfl | exact Co_nn rfl); exact (by first | exact es_nodes | exact es_ints | exact es_nodess); exact rfl; exact fun _ => rfl)
      | (apply Y_sl_h; (first | exact Co_dd rfl | exact Co_bb rfl rfl rfl | exact Co_nn rfl); exact (by first | exact es_nodes | exact es_ints | exact es_nodess); exact rfl; exact fun _ => rfl)
      | (apply Y_lit0; exact (by first | exact ety_nodes | exact ety_ints | exact ety_nodess); exact (by first | exact es_nodes | exact es_ints | exact es_nodess); exact (by first | exact zs_node | exact zs_int | exact zs_nodes); exact rfl)
      | (apply Y_lit1; exact (by first | exact ety_nodes | exact ety_ints | exact ety_nodess); exact (by first | exact es_nodes | exact es_ints | exact es_nodess); exact (by first | exact zs_node | exact zs_int | exact zs_nodes); exact rfl; exact rfl; (first | exact CoL_d rfl CoL_nil | exact CoL_b rfl rfl rfl CoL_nil | exact CoL_n rfl CoL_nil); exact rfl)
      | (apply Y_lit2; exact (by first | exact ety_nodes | exact ety_ints | exact ety_nodess); exact (by first | exact es_nodes | exact es_ints | exact es_nodess); exact (by first | exact zs_node | exact zs_int | exact zs_nodes); exact rfl; exact rfl; (first | exact CoL_d rfl (CoL_d rfl CoL_nil) | exact CoL_b rfl rfl rfl (CoL_b rfl rfl rfl CoL_nil)); exact rfl)
      | (apply Y_lit3; exact (by first | exact ety_nodes | exact ety_ints | exact ety_nodess); exact (by first | exact es_nodes | exact es_ints | exact es_nodess); exact (by first | exact zs_node | exact zs_int | exact zs_nodes); exact rfl; exact rfl; (exact CoL_d rfl (CoL_d rfl (CoL_d rfl CoL_nil))); exact rfl)
      | (apply Y_lit4; exact (by first | exact ety_nodes | exact ety_ints | exact ety_nodess); exact (by first | exact es_nodes | exact es_ints | exact es_nodess); exact (by first | exact zs_node | exact zs_int | exact zs_nodes); exact rfl; exact rfl; (exact CoL_d rfl (CoL_d rfl (CoL_d rfl (CoL_d rfl CoL_nil)))); exact rfl)
      | (apply Y_mkf; exact rfl)
      | (apply w1; exact rfl; exact rfl)
      | (apply k1 (hd := rfl); exact rfl; exact rfl)
      | (apply k0 (hd := rfl); exact rfl; exact rfl)
      | (apply gD; exact rfl; exact rfl; (intro hb); rotate_left; (intro hb); rotate_right)
      | (apply gN; exact rfl; exact rfl; (intro hb); rotate_left; (intro hb); rotate_right)
      | (apply g1; exact rfl; exact rfl; (intro hb); rotate_left; (intro hb); rotate_right)
      | (refine w0' ?_)
      | (apply aStore; exact rfl; exact rfl; exact rfl; exact (by first | exact tc_int | exact tc_nodes | exact tc_node | exact tc_ints | exact tc_kind | exact tc_i64 | exact tc_str | exact tc_bool); exact rfl; exact rfl; exact rfl; exact rfl)
      | (apply awp_condD; exact rfl; (intro hb); rotate_left; (intro hb); rotate_right)
      | (apply awp_condN; exact rfl; (intro hb); rotate_left; (intro hb); rotate_right)
      | (apply awp_condT; exact rfl)
      | (apply awp_condF; exact rfl)
      | (apply awp_cond; exact rfl; (intro hb); rotate_left; (intro hb); rotate_right)
      | refine awp_block ?_
      | refine awp_skip ?_
      | refine awp_ret ?_
      | refine awp_exit ?_
      | refine awp_label ?_
      | refine awp_goto ?_
      | refine awp_draw (by kernel_rfl) (by kernel_rfl) ?_
      | refine en_r ?_
      | refine en_e ?_
      | refine eb_n ?_
      | refine eb_r ?_
      | refine eb_e ?_
      | refine eb_o rfl ?_
      | refine en_g ?_
      | refine eb_g ?_
      | refine ej_n ?_
      | refine ej_r ?_
      | refine ej_e ?_
      | refine ej_g ?_
      | refine rpost_ret ?_
      | (apply res1; exact rfl)
      | (apply res1n; exact rfl)
      | (apply res1b; exact rfl; exact rfl; (first | exact rfl | (simp; done)))
      | (apply res2; exact rfl; exact rfl)
      | (apply res2n; exact rfl; exact rfl)
      | (apply res2b; exact rfl; exact rfl; (first | exact rfl | (simp; done)); exact rfl)
      | exact CoL_nil
      | refine CoL_d rfl ?_
      | refine CoL_b rfl rfl rfl ?_
      | refine CoL_n rfl ?_
      | refine CoL_v rfl ?_
    all_goals try omega
    all_goals rw [endF_out (by omega)]
  | succ m ih =>
    intro at_ hm
    refine pcall_of Try.func10 rfl Try.ntmps10 Try.results10 rfl ?_
    intro wb St0
    repeat' first
      | refine en_n ?_
      | refine awp_seq ?_
      | refine awp_region ?_
      | refine alex_nil ?_
      | refine w0 ?_
      | (apply aJ (hd := rfl); (first | exact Co_dd rfl | exact Co_bb rfl rfl rfl | exact Co_nn rfl); exact rfl; exact (by first | exact es_nodes | exact es_ints | exact es_nodess); assumption; omega; exact fun _ => rfl)
      | (apply aI (hd := rfl); (first | exact Co_dd rfl | exact Co_bb rfl rfl rfl | exact Co_nn rfl); exact rfl; exact (by first | exact es_nodes | exact es_ints | exact es_nodess); exact fun _ => rfl; rotate_left; intro v hv; rotate_right)
      | (apply aApp (hd := rfl) (hro := rfl); exact rfl; exact rfl; (first | exact Co_dd rfl | exact Co_bb rfl rfl rfl | exact Co_nn rfl); (first | exact rfl | (simp; done)); exact rfl; exact (by first | exact ety_nodes | exact ety_ints | exact ety_nodess); exact (by first | exact es_nodes | exact es_ints | exact es_nodess); exact (by first | exact zl_node | exact zl_int | exact zl_nodes); exact (by first | exact by_nodes | exact by_ints | exact by_nodess); (first | exact sz_map (fun _ => rfl) | exact sz_lit rfl))
      | (apply aBox (hd := rfl) (hro := rfl); exact rfl; exact rfl)
      | (apply aAlloc (hd := rfl) (hro := rfl); exact (by first | exact zo_node | exact zo_int))
      | apply ay (hd := rfl)
      | (apply Y_move_d; exact rfl)
      | (apply Y_assign_d; exact rfl)
      | (apply Y_field_r; exact rfl; exact (by first | exact fo_0 | exact fo_1 | exact fo_2 | exact fo_3))
      | (apply Y_load_r1; exact rfl; exact (by first | exact tc_int | exact tc_nodes | exact tc_node | exact tc_ints | exact tc_kind | exact tc_i64 | exact tc_str | exact tc_bool))
      | (apply Y_load_r; exact rfl; exact (by first | exact tc_int | exact tc_nodes | exact tc_node | exact tc_ints | exact tc_kind | exact tc_i64 | exact tc_str | exact tc_bool); exact rfl)
      | (apply Y_len_m; exact rfl; exact (by first | exact et_nodes | exact et_ints | exact et_nodess))
      | (apply Y_len_d; exact rfl; exact (by first | exact et_nodes | exact et_ints | exact et_nodess))
      | (apply Y_lss; exact rfl; exact rfl)
      | (apply Y_leq; exact rfl; exact rfl)
      | (apply Y_gtr; exact rfl; exact rfl)
      | (apply Y_geq; exact rfl; exact rfl)
      | (apply Y_eql; exact rfl; exact rfl)
      | (apply Y_neq; exact rfl; exact rfl)
      | (apply Y_add; exact rfl; exact rfl)
      | (apply Y_sub; exact rfl; exact rfl)
      | (apply Y_mul; exact rfl; exact rfl)
      | (apply Y_not; exact rfl)
      | (apply Y_pick_t; exact rfl; exact rfl)
      | (apply Y_pick_f; exact rfl; exact rfl)
      | (apply Y_extract; exact rfl; exact rfl)
      | (apply Y_max; exact rfl; exact rfl)
      | (apply Y_move_nil; exact rfl)
      | (apply Y_assign_nil; exact rfl)
      | (apply Y_move_buf; exact rfl)
      | (apply Y_assign_buf; exact rfl)
      | (apply Y_len_buf; exact rfl; exact (by first | exact et_nodes | exact et_ints | exact et_nodess))
      | (apply Y_len_nil; exact rfl; exact (by first | exact et_nodes | exact et_ints | exact et_nodess))
      | (apply Y_move_ptr; exact rfl)
      | (apply Y_assign_ptr; exact rfl)
      | (apply Y_move_clo; exact rfl)
      | (apply Y_assign_clo; exact rfl)
      | (apply Y_field_p; exact rfl; exact (by first | exact fo_0 | exact fo_1 | exact fo_2 | exact fo_3))
      | (apply Y_load_p; exact rfl; exact (by first | exact tc_int | exact tc_nodes | exact tc_node | exact tc_ints | exact tc_kind | exact tc_i64 | exact tc_str | exact tc_bool); exact rfl; exact rfl)
      | (apply Y_load_pa; exact rfl; exact (by first | exact tc_int | exact tc_nodes | exact tc_node | exact tc_ints | exact tc_kind | exact tc_i64 | exact tc_str | exact tc_bool); exact rfl; exact rfl; exact rfl)
      | (apply Y_sl; (first | exact Co_dd rfl | exact Co_bb rfl rfl rfl | exact Co_nn rfl); exact (by first | exact es_nodes | exact es_ints | exact es_nodess); exact rfl; exact rfl; exact fun _ => rfl)
      | (apply Y_sl_l; (first | exact Co_dd rfl | exact Co_bb rfl rfl rfl | exact Co_nn rfl); exact (by first | exact es_nodes | exact es_ints | exact es_nodess); exact rfl; exact fun _ => rfl)
      | (apply Y_sl_h; (first | exact Co_dd rfl | exact Co_bb rfl rfl rfl | exact Co_nn rfl); exact (by first | exact es_nodes | exact es_ints | exact es_nodess); exact rfl; exact fun _ => rfl)
      | (apply Y_lit0; exact (by first | exact ety_nodes | exact ety_ints | exact ety_nodess); exact (by first | exact es_nodes | exact es_ints | exact es_nodess); exact (by first | exact zs_node | exact zs_int | exact zs_nodes); exact rfl)
      | (apply Y_lit1; exact (by first | exact ety_nodes | exact ety_ints | exact ety_nodess); exact (by first | exact es_nodes | exact es_ints | exact es_nodess); exact (by first | exact zs_node | exact zs_int | exact zs_nodes); exact rfl; exact rfl; (first | exact CoL_d rfl CoL_nil | exact CoL_b rfl rfl rfl CoL_nil | exact CoL_n rfl CoL_nil); exact rfl)
      | (apply Y_lit2; exact (by first | exact ety_nodes | exact ety_ints | exact ety_nodess); exact (by first | exact es_nodes | exact es_ints | exact es_nodess); exact (by first | exact zs_node | exact zs_int | exact zs_nodes); exact rfl; exact rfl; (first | exact CoL_d rfl (CoL_d rfl CoL_nil) | exact CoL_b rfl rfl rfl (CoL_b rfl rfl rfl CoL_nil)); exact rfl)
      | (apply Y_lit3; exact (by first | exact ety_nodes | exact ety_ints | exact ety_nodess); exact (by first | exact es_nodes | exact es_ints | exact es_nodess); exact (by first | exact zs_node | exact zs_int | exact zs_nodes); exact rfl; exact rfl; (exact CoL_d rfl (CoL_d rfl (CoL_d rfl CoL_nil))); exact rfl)
      | (apply Y_lit4; exact (by first | exact ety_nodes | exact ety_ints | exact ety_nodess); exact (by first | exact es_nodes | exact es_ints | exact es_nodess); exact (by first | exact zs_node | exact zs_int | exact zs_nodes); exact rfl; exact rfl; (exact CoL_d rfl (CoL_d rfl (CoL_d rfl (CoL_d rfl CoL_nil)))); exact rfl)
      | (apply Y_mkf; exact rfl)
      | (apply w1; exact rfl; exact rfl)
      | (apply k1 (hd := rfl); exact rfl; exact rfl)
      | (apply k0 (hd := rfl); exact rfl; exact rfl)
      | (apply gD; exact rfl; exact rfl; (intro hb); rotate_left; (intro hb); rotate_right)
      | (apply gN; exact rfl; exact rfl; (intro hb); rotate_left; (intro hb); rotate_right)
      | (apply g1; exact rfl; exact rfl; (intro hb); rotate_left; (intro hb); rotate_right)
      | (refine w0' ?_)
      | (apply aStore; exact rfl; exact rfl; exact rfl; exact (by first | exact tc_int | exact tc_nodes | exact tc_node | exact tc_ints | exact tc_kind | exact tc_i64 | exact tc_str | exact tc_bool); exact rfl; exact rfl; exact rfl; exact rfl)
      | (apply awp_condD; exact rfl; (intro hb); rotate_left; (intro hb); rotate_right)
      | (apply awp_condN; exact rfl; (intro hb); rotate_left; (intro hb); rotate_right)
      | (apply awp_condT; exact rfl)
      | (apply awp_condF; exact rfl)
      | (apply awp_cond; exact rfl; (intro hb); rotate_left; (intro hb); rotate_right)
      | refine awp_block ?_
      | refine awp_skip ?_
      | refine awp_ret ?_
      | refine awp_exit ?_
      | refine awp_label ?_
      | refine awp_goto ?_
      | refine awp_draw (by kernel_rfl) (by kernel_rfl) ?_
      | refine en_r ?_
      | refine en_e ?_
      | refine eb_n ?_
      | refine eb_r ?_
      | refine eb_e ?_
      | refine eb_o rfl ?_
      | refine en_g ?_
      | refine eb_g ?_
      | refine ej_n ?_
      | refine ej_r ?_
      | refine ej_e ?_
      | refine ej_g ?_
      | refine rpost_ret ?_
      | (apply res1; exact rfl)
      | (apply res1n; exact rfl)
      | (apply res1b; exact rfl; exact rfl; (first | exact rfl | (simp; done)))
      | (apply res2; exact rfl; exact rfl)
      | (apply res2n; exact rfl; exact rfl)
      | (apply res2b; exact rfl; exact rfl; (first | exact rfl | (simp; done)); exact rfl)
      | exact CoL_nil
      | refine CoL_d rfl ?_
      | refine CoL_b rfl rfl rfl ?_
      | refine CoL_n rfl ?_
      | refine CoL_v rfl ?_
    all_goals try omega
    · rw [endF_out (by omega)]
    · rw [endF_out (by omega)]
    · obtain ⟨k, rfl⟩ := Int.eq_ofNat_of_zero_le (show 0 ≤ at_ by omega)
      rw [endF_rec (k := k) hv, if_pos (by omega)]
    · obtain ⟨k, rfl⟩ := Int.eq_ofNat_of_zero_le (show 0 ≤ at_ by omega)
      rw [endF_rec (k := k) hv, if_pos (by omega)]
    · obtain ⟨k, rfl⟩ := Int.eq_ofNat_of_zero_le (show 0 ≤ at_ by omega)
      have he := endF_rec (k := k) hv
      rw [if_neg (by omega)] at he
      refine awp_loopF (α := Nat) (fun i => i ≤ v.kids.toNat ∧ 0 ≤ seqE L ((k : Int) + 1) i) (fun i => [(0, .d (nodes L)), (1, .d (i64 (k : Int))), (5, .d (i64 (seqE L ((k : Int) + 1) i))), (6, .d (i64 (i : Int)))]) (fun _ => []) (fun i => v.kids.toNat - i) 0 ⟨Nat.zero_le _, by simp only [seqE]; omega⟩
        (Fits_mk (Le_cons rfl (Le_cons rfl (Le_cons rfl (Le_cons rfl Le_nil)))) Pre_nil rfl rfl) ?_
      rintro i ⟨hi1, hi2⟩
      have hg := seqE_ge hi2
      repeat' first
        | refine en_n ?_
        | refine awp_seq ?_
        | refine awp_region ?_
        | refine alex_nil ?_
        | refine w0 ?_
        | (apply Y_call (hb := hb_rEnd) (hc := ih _ _))
        | (apply aJ (hd := rfl); (first | exact Co_dd rfl | exact Co_bb rfl rfl rfl | exact Co_nn rfl); exact rfl; exact (by first | exact es_nodes | exact es_ints | exact es_nodess); assumption; omega; exact fun _ => rfl)
        | (apply aI (hd := rfl); (first | exact Co_dd rfl | exact Co_bb rfl rfl rfl | exact Co_nn rfl); exact rfl; exact (by first | exact es_nodes | exact es_ints | exact es_nodess); exact fun _ => rfl; rotate_left; intro v hv; rotate_right)
        | (apply aApp (hd := rfl) (hro := rfl); exact rfl; exact rfl; (first | exact Co_dd rfl | exact Co_bb rfl rfl rfl | exact Co_nn rfl); (first | exact rfl | (simp; done)); exact rfl; exact (by first | exact ety_nodes | exact ety_ints | exact ety_nodess); exact (by first | exact es_nodes | exact es_ints | exact es_nodess); exact (by first | exact zl_node | exact zl_int | exact zl_nodes); exact (by first | exact by_nodes | exact by_ints | exact by_nodess); (first | exact sz_map (fun _ => rfl) | exact sz_lit rfl))
        | (apply aBox (hd := rfl) (hro := rfl); exact rfl; exact rfl)
        | (apply aAlloc (hd := rfl) (hro := rfl); exact (by first | exact zo_node | exact zo_int))
        | apply ay (hd := rfl)
        | (apply Y_move_d; exact rfl)
        | (apply Y_assign_d; exact rfl)
        | (apply Y_field_r; exact rfl; exact (by first | exact fo_0 | exact fo_1 | exact fo_2 | exact fo_3))
        | (apply Y_load_r1; exact rfl; exact (by first | exact tc_int | exact tc_nodes | exact tc_node | exact tc_ints | exact tc_kind | exact tc_i64 | exact tc_str | exact tc_bool))
        | (apply Y_load_r; exact rfl; exact (by first | exact tc_int | exact tc_nodes | exact tc_node | exact tc_ints | exact tc_kind | exact tc_i64 | exact tc_str | exact tc_bool); exact rfl)
        | (apply Y_len_m; exact rfl; exact (by first | exact et_nodes | exact et_ints | exact et_nodess))
        | (apply Y_len_d; exact rfl; exact (by first | exact et_nodes | exact et_ints | exact et_nodess))
        | (apply Y_lss; exact rfl; exact rfl)
        | (apply Y_leq; exact rfl; exact rfl)
        | (apply Y_gtr; exact rfl; exact rfl)
        | (apply Y_geq; exact rfl; exact rfl)
        | (apply Y_eql; exact rfl; exact rfl)
        | (apply Y_neq; exact rfl; exact rfl)
        | (apply Y_add; exact rfl; exact rfl)
        | (apply Y_sub; exact rfl; exact rfl)
        | (apply Y_mul; exact rfl; exact rfl)
        | (apply Y_not; exact rfl)
        | (apply Y_pick_t; exact rfl; exact rfl)
        | (apply Y_pick_f; exact rfl; exact rfl)
        | (apply Y_extract; exact rfl; exact rfl)
        | (apply Y_max; exact rfl; exact rfl)
        | (apply Y_move_nil; exact rfl)
        | (apply Y_assign_nil; exact rfl)
        | (apply Y_move_buf; exact rfl)
        | (apply Y_assign_buf; exact rfl)
        | (apply Y_len_buf; exact rfl; exact (by first | exact et_nodes | exact et_ints | exact et_nodess))
        | (apply Y_len_nil; exact rfl; exact (by first | exact et_nodes | exact et_ints | exact et_nodess))
        | (apply Y_move_ptr; exact rfl)
        | (apply Y_assign_ptr; exact rfl)
        | (apply Y_move_clo; exact rfl)
        | (apply Y_assign_clo; exact rfl)
        | (apply Y_field_p; exact rfl; exact (by first | exact fo_0 | exact fo_1 | exact fo_2 | exact fo_3))
        | (apply Y_load_p; exact rfl; exact (by first | exact tc_int | exact tc_nodes | exact tc_node | exact tc_ints | exact tc_kind | exact tc_i64 | exact tc_str | exact tc_bool); exact rfl; exact rfl)
        | (apply Y_load_pa; exact rfl; exact (by first | exact tc_int | exact tc_nodes | exact tc_node | exact tc_ints | exact tc_kind | exact tc_i64 | exact tc_str | exact tc_bool); exact rfl; exact rfl; exact rfl)
        | (apply Y_sl; (first | exact Co_dd rfl | exact Co_bb rfl rfl rfl | exact Co_nn rfl); exact (by first | exact es_nodes | exact es_ints | exact es_nodess); exact rfl; exact rfl; exact fun _ => rfl)
        | (apply Y_sl_l; (first | exact Co_dd rfl | exact Co_bb rfl rfl rfl | exact Co_nn rfl); exact (by first | exact es_nodes | exact es_ints | exact es_nodess); exact rfl; exact fun _ => rfl)
        | (apply Y_sl_h; (first | exact Co_dd rfl | exact Co_bb rfl rfl rfl | exact Co_nn rfl); exact (by first | exact es_nodes | exact es_ints | exact es_nodess); exact rfl; exact fun _ => rfl)
        | (apply Y_lit0; exact (by first | exact ety_nodes | exact ety_ints | exact ety_nodess); exact (by first | exact es_nodes | exact es_ints | exact es_nodess); exact (by first | exact zs_node | exact zs_int | exact zs_nodes); exact rfl)
        | (apply Y_lit1; exact (by first | exact ety_nodes | exact ety_ints | exact ety_nodess); exact (by first | exact es_nodes | exact es_ints | exact es_nodess); exact (by first | exact zs_node | exact zs_int | exact zs_nodes); exact rfl; exact rfl; (first | exact CoL_d rfl CoL_nil | exact CoL_b rfl rfl rfl CoL_nil | exact CoL_n rfl CoL_nil); exact rfl)
        | (apply Y_lit2; exact (by first | exact ety_nodes | exact ety_ints | exact ety_nodess); exact (by first | exact es_nodes | exact es_ints | exact es_nodess); exact (by first | exact zs_node | exact zs_int | exact zs_nodes); exact rfl; exact rfl; (first | exact CoL_d rfl (CoL_d rfl CoL_nil) | exact CoL_b rfl rfl rfl (CoL_b rfl rfl rfl CoL_nil)); exact rfl)
        | (apply Y_lit3; exact (by first | exact ety_nodes | exact ety_ints | exact ety_nodess); exact (by first | exact es_nodes | exact es_ints | exact es_nodess); exact (by first | exact zs_node | exact zs_int | exact zs_nodes); exact rfl; exact rfl; (exact CoL_d rfl (CoL_d rfl (CoL_d rfl CoL_nil))); exact rfl)
        | (apply Y_lit4; exact (by first | exact ety_nodes | exact ety_ints | exact ety_nodess); exact (by first | exact es_nodes | exact es_ints | exact es_nodess); exact (by first | exact zs_node | exact zs_int | exact zs_nodes); exact rfl; exact rfl; (exact CoL_d rfl (CoL_d rfl (CoL_d rfl (CoL_d rfl CoL_nil)))); exact rfl)
        | (apply Y_mkf; exact rfl)
        | (apply w1; exact rfl; exact rfl)
        | (apply k1 (hd := rfl); exact rfl; exact rfl)
        | (apply k0 (hd := rfl); exact rfl; exact rfl)
        | (apply gD; exact rfl; exact rfl; (intro hb); rotate_left; (intro hb); rotate_right)
        | (apply gN; exact rfl; exact rfl; (intro hb); rotate_left; (intro hb); rotate_right)
        | (apply g1; exact rfl; exact rfl; (intro hb); rotate_left; (intro hb); rotate_right)
        | (refine w0' ?_)
        | (apply aStore; exact rfl; exact rfl; exact rfl; exact (by first | exact tc_int | exact tc_nodes | exact tc_node | exact tc_ints | exact tc_kind | exact tc_i64 | exact tc_str | exact tc_bool); exact rfl; exact rfl; exact rfl; exact rfl)
        | (apply awp_condD; exact rfl; (intro hb); rotate_left; (intro hb); rotate_right)
        | (apply awp_condN; exact rfl; (intro hb); rotate_left; (intro hb); rotate_right)
        | (apply awp_condT; exact rfl)
        | (apply awp_condF; exact rfl)
        | (apply awp_cond; exact rfl; (intro hb); rotate_left; (intro hb); rotate_right)
        | refine awp_block ?_
        | refine awp_skip ?_
        | refine awp_ret ?_
        | refine awp_exit ?_
        | refine awp_label ?_
        | refine awp_goto ?_
        | refine awp_draw (by kernel_rfl) (by kernel_rfl) ?_
        | refine en_r ?_
        | refine en_e ?_
        | refine eb_n ?_
        | refine eb_r ?_
        | refine eb_e ?_
        | refine eb_o rfl ?_
        | refine en_g ?_
        | refine eb_g ?_
        | refine ej_n ?_
        | refine ej_r ?_
        | refine ej_e ?_
        | refine ej_g ?_
        | refine rpost_ret ?_
        | (apply res1; exact rfl)
        | (apply res1n; exact rfl)
        | (apply res1b; exact rfl; exact rfl; (first | exact rfl | (simp; done)))
        | (apply res2; exact rfl; exact rfl)
        | (apply res2n; exact rfl; exact rfl)
        | (apply res2b; exact rfl; exact rfl; (first | exact rfl | (simp; done)); exact rfl)
        | exact CoL_nil
        | refine CoL_d rfl ?_
        | refine CoL_b rfl rfl rfl ?_
        | refine CoL_n rfl ?_
        | refine CoL_v rfl ?_
      · omega
      · have h1 := seqE_succ hi2
        have h2 := seqE_neg1 (a := (k : Int) + 1) (by omega) (seqE_neg (j := v.kids.toNat) (show seqE L ((k : Int) + 1) (i + 1) < 0 by omega) (by omega))
        rw [he, h2]
      · omega
      · refine ⟨i + 1, ⟨by omega, by rw [seqE_succ hi2]; omega⟩, by omega, Fits_mk (Le_cons rfl (Le_cons rfl (Le_d rfl ?_ (Le_cons rfl Le_nil)))) Pre_nil rfl rfl⟩
        rw [seqE_succ hi2]
      · rw [he, show i = v.kids.toNat by omega]

theorem rEnd (L : List Nd) (at_ : Int) (hL : L.length ≤ 1000000) : PCall Try.prog 10 [nodes L, i64 at_] (i64 (endF L at_)) := rEnd_ok L hL ((L.length : Int) - at_).toNat at_ (by omega)

theorem rWhole_ok (L : List Nd) (hL : L.length ≤ 1000000) : PCall Try.prog 15 [nodes L] (bl (wholeF L)) := by
  refine pcall_of Try.func15 rfl Try.ntmps15 Try.results15 rfl ?_
  intro wb St0
  repeat' first
    | refine en_n ?_
    | refine awp_seq ?_
    | refine awp_region ?_
    | refine alex_nil ?_
    | refine w0 ?_
    | (apply Y_call (hb := hb_rEnd) (hc := rEnd L _ hL))
    | (apply aJ (hd := rfl); (first | exact Co_dd rfl | exact Co_bb rfl rfl rfl | exact Co_nn rfl); exact rfl; exact (by first | exact es_nodes | exact es_ints | exact es_nodess); assumption; omega; exact fun _ => rfl)
    | (apply aI (hd := rfl); (first | exact Co_dd rfl | exact Co_bb rfl rfl rfl | exact Co_nn rfl); exact rfl; exact (by first | exact es_nodes | exact es_ints | exact es_nodess); exact fun _ => rfl; rotate_left; intro v hv; rotate_right)
    | (apply aApp (hd := rfl) (hro := rfl); exact rfl; exact rfl; (first | exact Co_dd rfl | exact Co_bb rfl rfl rfl | exact Co_nn rfl); (first | exact rfl | (simp; done)); exact rfl; exact (by first | exact ety_nodes | exact ety_ints | exact ety_nodess); exact (by first | exact es_nodes | exact es_ints | exact es_nodess); exact (by first | exact zl_node | exact zl_int | exact zl_nodes); exact (by first | exact by_nodes | exact by_ints | exact by_nodess); (first | exact sz_map (fun _ => rfl) | exact sz_lit rfl))
    | (apply aBox (hd := rfl) (hro := rfl); exact rfl; exact rfl)
    | (apply aAlloc (hd := rfl) (hro := rfl); exact (by first | exact zo_node | exact zo_int))
    | apply ay (hd := rfl)
    | (apply Y_move_d; exact rfl)
    | (apply Y_assign_d; exact rfl)
    | (apply Y_field_r; exact rfl; exact (by first | exact fo_0 | exact fo_1 | exact fo_2 | exact fo_3))
    | (apply Y_load_r1; exact rfl; exact (by first | exact tc_int | exact tc_nodes | exact tc_node | exact tc_ints | exact tc_kind | exact tc_i64 | exact tc_str | exact tc_bool))
    | (apply Y_load_r; exact rfl; exact (by first | exact tc_int | exact tc_nodes | exact tc_node | exact tc_ints | exact tc_kind | exact tc_i64 | exact tc_str | exact tc_bool); exact rfl)
    | (apply Y_len_m; exact rfl; exact (by first | exact et_nodes | exact et_ints | exact et_nodess))
    | (apply Y_len_d; exact rfl; exact (by first | exact et_nodes | exact et_ints | exact et_nodess))
    | (apply Y_lss; exact rfl; exact rfl)
    | (apply Y_leq; exact rfl; exact rfl)
    | (apply Y_gtr; exact rfl; exact rfl)
    | (apply Y_geq; exact rfl; exact rfl)
    | (apply Y_eql; exact rfl; exact rfl)
    | (apply Y_neq; exact rfl; exact rfl)
    | (apply Y_add; exact rfl; exact rfl)
    | (apply Y_sub; exact rfl; exact rfl)
    | (apply Y_mul; exact rfl; exact rfl)
    | (apply Y_not; exact rfl)
    | (apply Y_pick_t; exact rfl; exact rfl)
    | (apply Y_pick_f; exact rfl; exact rfl)
    | (apply Y_extract; exact rfl; exact rfl)
    | (apply Y_max; exact rfl; exact rfl)
    | (apply Y_move_nil; exact rfl)
    | (apply Y_assign_nil; exact rfl)
    | (apply Y_move_buf; exact rfl)
    | (apply Y_assign_buf; exact rfl)
    | (apply Y_len_buf; exact rfl; exact (by first | exact et_nodes | exact et_ints | exact et_nodess))
    | (apply Y_len_nil; exact rfl; exact (by first | exact et_nodes | exact et_ints | exact et_nodess))
    | (apply Y_move_ptr; exact rfl)
    | (apply Y_assign_ptr; exact rfl)
    | (apply Y_move_clo; exact rfl)
    | (apply Y_assign_clo; exact rfl)
    | (apply Y_field_p; exact rfl; exact (by first | exact fo_0 | exact fo_1 | exact fo_2 | exact fo_3))
    | (apply Y_load_p; exact rfl; exact (by first | exact tc_int | exact tc_nodes | exact tc_node | exact tc_ints | exact tc_kind | exact tc_i64 | exact tc_str | exact tc_bool); exact rfl; exact rfl)
    | (apply Y_load_pa; exact rfl; exact (by first | exact tc_int | exact tc_nodes | exact tc_node | exact tc_ints | exact tc_kind | exact tc_i64 | exact tc_str | exact tc_bool); exact rfl; exact rfl; exact rfl)
    | (apply Y_sl; (first | exact Co_dd rfl | exact Co_bb rfl rfl rfl | exact Co_nn rfl); exact (by first | exact es_nodes | exact es_ints | exact es_nodess); exact rfl; exact rfl; exact fun _ => rfl)
    | (apply Y_sl_l; (first | exact Co_dd rfl | exact Co_bb rfl rfl rfl | exact Co_nn rfl); exact (by first | exact es_nodes | exact es_ints | exact es_nodess); exact rfl; exact fun _ => rfl)
    | (apply Y_sl_h; (first | exact Co_dd rfl | exact Co_bb rfl rfl rfl | exact Co_nn rfl); exact (by first | exact es_nodes | exact es_ints | exact es_nodess); exact rfl; exact fun _ => rfl)
    | (apply Y_lit0; exact (by first | exact ety_nodes | exact ety_ints | exact ety_nodess); exact (by first | exact es_nodes | exact es_ints | exact es_nodess); exact (by first | exact zs_node | exact zs_int | exact zs_nodes); exact rfl)
    | (apply Y_lit1; exact (by first | exact ety_nodes | exact ety_ints | exact ety_nodess); exact (by first | exact es_nodes | exact es_ints | exact es_nodess); exact (by first | exact zs_node | exact zs_int | exact zs_nodes); exact rfl; exact rfl; (first | exact CoL_d rfl CoL_nil | exact CoL_b rfl rfl rfl CoL_nil | exact CoL_n rfl CoL_nil); exact rfl)
    | (apply Y_lit2; exact (by first | exact ety_nodes | exact ety_ints | exact ety_nodess); exact (by first | exact es_nodes | exact es_ints | exact es_nodess); exact (by first | exact zs_node | exact zs_int | exact zs_nodes); exact rfl; exact rfl; (first | exact CoL_d rfl (CoL_d rfl CoL_nil) | exact CoL_b rfl rfl rfl (CoL_b rfl rfl rfl CoL_nil)); exact rfl)
    | (apply Y_lit3; exact (by first | exact ety_nodes | exact ety_ints | exact ety_nodess); exact (by first | exact es_nodes | exact es_ints | exact es_nodess); exact (by first | exact zs_node | exact zs_int | exact zs_nodes); exact rfl; exact rfl; (exact CoL_d rfl (CoL_d rfl (CoL_d rfl CoL_nil))); exact rfl)
    | (apply Y_lit4; exact (by first | exact ety_nodes | exact ety_ints | exact ety_nodess); exact (by first | exact es_nodes | exact es_ints | exact es_nodess); exact (by first | exact zs_node | exact zs_int | exact zs_nodes); exact rfl; exact rfl; (exact CoL_d rfl (CoL_d rfl (CoL_d rfl (CoL_d rfl CoL_nil)))); exact rfl)
    | (apply Y_mkf; exact rfl)
    | (apply w1; exact rfl; exact rfl)
    | (apply k1 (hd := rfl); exact rfl; exact rfl)
    | (apply k0 (hd := rfl); exact rfl; exact rfl)
    | (apply gD; exact rfl; exact rfl; (intro hb); rotate_left; (intro hb); rotate_right)
    | (apply gN; exact rfl; exact rfl; (intro hb); rotate_left; (intro hb); rotate_right)
    | (apply g1; exact rfl; exact rfl; (intro hb); rotate_left; (intro hb); rotate_right)
    | (refine w0' ?_)
    | (apply aStore; exact rfl; exact rfl; exact rfl; exact (by first | exact tc_int | exact tc_nodes | exact tc_node | exact tc_ints | exact tc_kind | exact tc_i64 | exact tc_str | exact tc_bool); exact rfl; exact rfl; exact rfl; exact rfl)
    | (apply awp_condD; exact rfl; (intro hb); rotate_left; (intro hb); rotate_right)
    | (apply awp_condN; exact rfl; (intro hb); rotate_left; (intro hb); rotate_right)
    | (apply awp_condT; exact rfl)
    | (apply awp_condF; exact rfl)
    | (apply awp_cond; exact rfl; (intro hb); rotate_left; (intro hb); rotate_right)
    | refine awp_block ?_
    | refine awp_skip ?_
    | refine awp_ret ?_
    | refine awp_exit ?_
    | refine awp_label ?_
    | refine awp_goto ?_
    | refine awp_draw (by kernel_rfl) (by kernel_rfl) ?_
    | refine en_r ?_
    | refine en_e ?_
    | refine eb_n ?_
    | refine eb_r ?_
    | refine eb_e ?_
    | refine eb_o rfl ?_
    | refine en_g ?_
    | refine eb_g ?_
    | refine ej_n ?_
    | refine ej_r ?_
    | refine ej_e ?_
    | refine ej_g ?_
    | refine rpost_ret ?_
    | (apply res1; exact rfl)
    | (apply res1n; exact rfl)
    | (apply res1b; exact rfl; exact rfl; (first | exact rfl | (simp; done)))
    | (apply res2; exact rfl; exact rfl)
    | (apply res2n; exact rfl; exact rfl)
    | (apply res2b; exact rfl; exact rfl; (first | exact rfl | (simp; done)); exact rfl)
    | exact CoL_nil
    | refine CoL_d rfl ?_
    | refine CoL_b rfl rfl rfl ?_
    | refine CoL_n rfl ?_
    | refine CoL_v rfl ?_
  · have h : 0 < L.length := by omega
    simp [wholeF, h]
  · have h : ¬ 0 < L.length := by omega
    simp [wholeF, h]

/-! ### where kids are -/
def kidsN (L : List Nd) (a : Int) : Nat := match L[a.toNat]? with
  | some x => x.kids.toNat
  | none => 0
def kidsF (L : List Nd) (a : Int) : List Int := if endF L a < 0 then [] else (List.range (kidsN L a)).map (seqE L (a + 1))

theorem ival_flat : ∀ v : Int, (ival v).flat.length = 1 := fun _ => rfl

theorem kid_at {L : List Nd} {a : Int} (h : ¬ endF L a < 0) : ∃ (k : Nat) (x : Nd), a = k ∧ L[k]? = some x ∧ 0 ≤ x.kids ∧ x.kids ≤ L.length ∧ endF L a = seqE L (a + 1) x.kids.toNat ∧ kidsN L a = x.kids.toNat ∧ kidsF L a = (List.range x.kids.toNat).map (seqE L (a + 1)) := by
  have hb := endF_bd L a
  obtain ⟨k, rfl⟩ := Int.eq_ofNat_of_zero_le (show 0 ≤ a by omega)
  have hk : k < L.length := by omega
  have hv : L[k]? = some L[k] := List.getElem?_eq_getElem hk
  have he := endF_rec hv
  have hg : ¬ (L[k].kids < 0 ∨ L[k].kids > L.length) := fun h0 => by rw [if_pos h0] at he; omega
  rw [if_neg hg] at he
  have hkn : kidsN L (k : Int) = L[k].kids.toNat := by unfold kidsN; rw [Int.toNat_natCast, hv]
  exact ⟨k, L[k], rfl, hv, by omega, by omega, he, hkn, by rw [kidsF, if_neg h, hkn]⟩

theorem kids_snoc (f : Nat → Int) (i : Nat) : ((List.range i).map f).map ival ++ [i64 (f i)] = ((List.range (i + 1)).map f).map ival := by
  rw [List.range_succ, List.map_append, List.map_append]; rfl

theorem Kids_ok (L : List Nd) (at_ : Int) (hL : L.length ≤ 1000000) : PCall Try.prog 17 [nodes L, i64 at_] (ints (kidsF L at_)) := by
  refine pcall_of Try.func17 rfl Try.ntmps17 Try.results17 rfl ?_
  intro wb St0
  repeat' first
    | refine en_n ?_
    | refine awp_seq ?_
    | refine awp_region ?_
    | refine alex_nil ?_
    | refine w0 ?_
    | (apply Y_call (hb := hb_End) (hc := End_ok L _ hL))
    | (apply aJ (hd := rfl); (first | exact Co_dd rfl | exact Co_bb rfl rfl rfl | exact Co_nn rfl); exact rfl; exact (by first | exact es_nodes | exact es_ints | exact es_nodess); assumption; omega; exact fun _ => rfl)
    | (apply aI (hd := rfl); (first | exact Co_dd rfl | exact Co_bb rfl rfl rfl | exact Co_nn rfl); exact rfl; exact (by first | exact es_nodes | exact es_ints | exact es_nodess); exact fun _ => rfl; rotate_left; intro v hv; rotate_right)
    | (apply aApp (hd := rfl) (hro := rfl); exact rfl; exact rfl; (first | exact Co_dd rfl | exact Co_bb rfl rfl rfl | exact Co_nn rfl); (first | exact rfl | (simp; done)); exact rfl; exact (by first | exact ety_nodes | exact ety_ints | exact ety_nodess); exact (by first | exact es_nodes | exact es_ints | exact es_nodess); exact (by first | exact zl_node | exact zl_int | exact zl_nodes); exact (by first | exact by_nodes | exact by_ints | exact by_nodess); (first | exact sz_map (fun _ => rfl) | exact sz_lit rfl))
    | (apply aBox (hd := rfl) (hro := rfl); exact rfl; exact rfl)
    | (apply aAlloc (hd := rfl) (hro := rfl); exact (by first | exact zo_node | exact zo_int))
    | apply ay (hd := rfl)
    | (apply Y_move_d; exact rfl)
    | (apply Y_assign_d; exact rfl)
    | (apply Y_field_r; exact rfl; exact (by first | exact fo_0 | exact fo_1 | exact fo_2 | exact fo_3))
    | (apply Y_load_r1; exact rfl; exact (by first | exact tc_int | exact tc_nodes | exact tc_node | exact tc_ints | exact tc_kind | exact tc_i64 | exact tc_str | exact tc_bool))
    | (apply Y_load_r; exact rfl; exact (by first | exact tc_int | exact tc_nodes | exact tc_node | exact tc_ints | exact tc_kind | exact tc_i64 | exact tc_str | exact tc_bool); exact rfl)
    | (apply Y_len_m; exact rfl; exact (by first | exact et_nodes | exact et_ints | exact et_nodess))
    | (apply Y_len_d; exact rfl; exact (by first | exact et_nodes | exact et_ints | exact et_nodess))
    | (apply Y_lss; exact rfl; exact rfl)
    | (apply Y_leq; exact rfl; exact rfl)
    | (apply Y_gtr; exact rfl; exact rfl)
    | (apply Y_geq; exact rfl; exact rfl)
    | (apply Y_eql; exact rfl; exact rfl)
    | (apply Y_neq; exact rfl; exact rfl)
    | (apply Y_add; exact rfl; exact rfl)
    | (apply Y_sub; exact rfl; exact rfl)
    | (apply Y_mul; exact rfl; exact rfl)
    | (apply Y_not; exact rfl)
    | (apply Y_pick_t; exact rfl; exact rfl)
    | (apply Y_pick_f; exact rfl; exact rfl)
    | (apply Y_extract; exact rfl; exact rfl)
    | (apply Y_max; exact rfl; exact rfl)
    | (apply Y_move_nil; exact rfl)
    | (apply Y_assign_nil; exact rfl)
    | (apply Y_move_buf; exact rfl)
    | (apply Y_assign_buf; exact rfl)
    | (apply Y_len_buf; exact rfl; exact (by first | exact et_nodes | exact et_ints | exact et_nodess))
    | (apply Y_len_nil; exact rfl; exact (by first | exact et_nodes | exact et_ints | exact et_nodess))
    | (apply Y_move_ptr; exact rfl)
    | (apply Y_assign_ptr; exact rfl)
    | (apply Y_move_clo; exact rfl)
    | (apply Y_assign_clo; exact rfl)
    | (apply Y_field_p; exact rfl; exact (by first | exact fo_0 | exact fo_1 | exact fo_2 | exact fo_3))
    | (apply Y_load_p; exact rfl; exact (by first | exact tc_int | exact tc_nodes | exact tc_node | exact tc_ints | exact tc_kind | exact tc_i64 | exact tc_str | exact tc_bool); exact rfl; exact rfl)
    | (apply Y_load_pa; exact rfl; exact (by first | exact tc_int | exact tc_nodes | exact tc_node | exact tc_ints | exact tc_kind | exact tc_i64 | exact tc_str | exact tc_bool); exact rfl; exact rfl; exact rfl)
    | (apply Y_sl; (first | exact Co_dd rfl | exact Co_bb rfl rfl rfl | exact Co_nn rfl); exact (by first | exact es_nodes | exact es_ints | exact es_nodess); exact rfl; exact rfl; exact fun _ => rfl)
    | (apply Y_sl_l; (first | exact Co_dd rfl | exact Co_bb rfl rfl rfl | exact Co_nn rfl); exact (by first | exact es_nodes | exact es_ints | exact es_nodess); exact rfl; exact fun _ => rfl)
    | (apply Y_sl_h; (first | exact Co_dd rfl | exact Co_bb rfl rfl rfl | exact Co_nn rfl); exact (by first | exact es_nodes | exact es_ints | exact es_nodess); exact rfl; exact fun _ => rfl)
    | (apply Y_lit0; exact (by first | exact ety_nodes | exact ety_ints | exact ety_nodess); exact (by first | exact es_nodes | exact es_ints | exact es_nodess); exact (by first | exact zs_node | exact zs_int | exact zs_nodes); exact rfl)
    | (apply Y_lit1; exact (by first | exact ety_nodes | exact ety_ints | exact ety_nodess); exact (by first | exact es_nodes | exact es_ints | exact es_nodess); exact (by first | exact zs_node | exact zs_int | exact zs_nodes); exact rfl; exact rfl; (first | exact CoL_d rfl CoL_nil | exact CoL_b rfl rfl rfl CoL_nil | exact CoL_n rfl CoL_nil); exact rfl)
    | (apply Y_lit2; exact (by first | exact ety_nodes | exact ety_ints | exact ety_nodess); exact (by first | exact es_nodes | exact es_ints | exact es_nodess); exact (by first | exact zs_node | exact zs_int | exact zs_nodes); exact rfl; exact rfl; (first | exact CoL_d rfl (CoL_d rfl CoL_nil) | exact CoL_b rfl rfl rfl (CoL_b rfl rfl rfl CoL_nil)); exact rfl)
    | (apply Y_lit3; exact (by first | exact ety_nodes | exact ety_ints | exact ety_nodess); exact (by first | exact es_nodes | exact es_ints | exact es_nodess); exact (by first | exact zs_node | exact zs_int | exact zs_nodes); exact rfl; exact rfl; (exact CoL_d rfl (CoL_d rfl (CoL_d rfl CoL_nil))); exact rfl)
    | (apply Y_lit4; exact (by first | exact ety_nodes | exact ety_ints | exact ety_nodess); exact (by first | exact es_nodes | exact es_ints | exact es_nodess); exact (by first | exact zs_node | exact zs_int | exact zs_nodes); exact rfl; exact rfl; (exact CoL_d rfl (CoL_d rfl (CoL_d rfl (CoL_d rfl CoL_nil)))); exact rfl)
    | (apply Y_mkf; exact rfl)
    | (apply w1; exact rfl; exact rfl)
    | (apply k1 (hd := rfl); exact rfl; exact rfl)
    | (apply k0 (hd := rfl); exact rfl; exact rfl)
    | (apply gD; exact rfl; exact rfl; (intro hb); rotate_left; (intro hb); rotate_right)
    | (apply gN; exact rfl; exact rfl; (intro hb); rotate_left; (intro hb); rotate_right)
    | (apply g1; exact rfl; exact rfl; (intro hb); rotate_left; (intro hb); rotate_right)
    | (refine w0' ?_)
    | (apply aStore; exact rfl; exact rfl; exact rfl; exact (by first | exact tc_int | exact tc_nodes | exact tc_node | exact tc_ints | exact tc_kind | exact tc_i64 | exact tc_str | exact tc_bool); exact rfl; exact rfl; exact rfl; exact rfl)
    | (apply awp_condD; exact rfl; (intro hb); rotate_left; (intro hb); rotate_right)
    | (apply awp_condN; exact rfl; (intro hb); rotate_left; (intro hb); rotate_right)
    | (apply awp_condT; exact rfl)
    | (apply awp_condF; exact rfl)
    | (apply awp_cond; exact rfl; (intro hb); rotate_left; (intro hb); rotate_right)
    | refine awp_block ?_
    | refine awp_skip ?_
    | refine awp_ret ?_
    | refine awp_exit ?_
    | refine awp_label ?_
    | refine awp_goto ?_
    | refine awp_draw (by kernel_rfl) (by kernel_rfl) ?_
    | refine en_r ?_
    | refine en_e ?_
    | refine eb_n ?_
    | refine eb_r ?_
    | refine eb_e ?_
    | refine eb_o rfl ?_
    | refine en_g ?_
    | refine eb_g ?_
    | refine ej_n ?_
    | refine ej_r ?_
    | refine ej_e ?_
    | refine ej_g ?_
    | refine rpost_ret ?_
    | (apply res1; exact rfl)
    | (apply res1n; exact rfl)
    | (apply res1b; exact rfl; exact rfl; (first | exact rfl | (simp; done)))
    | (apply res2; exact rfl; exact rfl)
    | (apply res2n; exact rfl; exact rfl)
    | (apply res2b; exact rfl; exact rfl; (first | exact rfl | (simp; done)); exact rfl)
    | exact CoL_nil
    | refine CoL_d rfl ?_
    | refine CoL_b rfl rfl rfl ?_
    | refine CoL_n rfl ?_
    | refine CoL_v rfl ?_
  · rw [kidsF, if_pos hb]; rfl
  · have := endF_bd L at_; omega
  · have := endF_bd L at_; omega
  · obtain ⟨k, x, hak, hx, h0, h1, he, hn, hf⟩ := kid_at hb
    subst hak
    obtain rfl : v = x := by rw [Int.toNat_natCast] at hv; rw [hx] at hv; exact (Option.some.inj hv).symm
    refine awp_newbuf 5 false 3 1 rfl rfl ?_
    refine awp_loopF (α := Nat) (fun i => i ≤ v.kids.toNat ∧ 0 ≤ seqE L ((k : Int) + 1) i) (fun i => [(0, .d (nodes L)), (1, .d (i64 (seqE L ((k : Int) + 1) i))), (5, .buf 0 (((List.range i).map (seqE L ((k : Int) + 1))).map ival).length), (6, .d (i64 v.kids))])
      (fun i => [.buf false 3 1 (((List.range i).map (seqE L ((k : Int) + 1))).map ival)]) (fun i => v.kids.toNat - i) 0 ⟨Nat.zero_le _, by simp only [seqE]; omega⟩
      (Fits_mk (Le_cons rfl (Le_cons rfl (Le_buf rfl rfl (Le_cons rfl Le_nil)))) (Pre_cons rfl rfl Pre_nil) rfl rfl) ?_
    rintro i ⟨hi1, hi2⟩
    have hg := seqE_ge hi2
    repeat' first
      | refine en_n ?_
      | refine awp_seq ?_
      | refine awp_region ?_
      | refine alex_nil ?_
      | refine w0 ?_
      | (apply Y_call (hb := hb_End) (hc := End_ok L _ hL))
      | (apply aJ (hd := rfl); (first | exact Co_dd rfl | exact Co_bb rfl rfl rfl | exact Co_nn rfl); exact rfl; exact (by first | exact es_nodes | exact es_ints | exact es_nodess); assumption; omega; exact fun _ => rfl)
      | (apply aI (hd := rfl); (first | exact Co_dd rfl | exact Co_bb rfl rfl rfl | exact Co_nn rfl); exact rfl; exact (by first | exact es_nodes | exact es_ints | exact es_nodess); exact fun _ => rfl; rotate_left; intro v hv; rotate_right)
      | (apply aApp (hd := rfl) (hro := rfl); exact rfl; exact rfl; (first | exact Co_dd rfl | exact Co_bb rfl rfl rfl | exact Co_nn rfl); (first | exact rfl | (simp; done)); exact rfl; exact (by first | exact ety_nodes | exact ety_ints | exact ety_nodess); exact (by first | exact es_nodes | exact es_ints | exact es_nodess); exact (by first | exact zl_node | exact zl_int | exact zl_nodes); exact (by first | exact by_nodes | exact by_ints | exact by_nodess); (first | exact sz_map (fun _ => rfl) | exact sz_lit rfl))
      | (apply aBox (hd := rfl) (hro := rfl); exact rfl; exact rfl)
      | (apply aAlloc (hd := rfl) (hro := rfl); exact (by first | exact zo_node | exact zo_int))
      | apply ay (hd := rfl)
      | (apply Y_move_d; exact rfl)
      | (apply Y_assign_d; exact rfl)
      | (apply Y_field_r; exact rfl; exact (by first | exact fo_0 | exact fo_1 | exact fo_2 | exact fo_3))
      | (apply Y_load_r1; exact rfl; exact (by first | exact tc_int | exact tc_nodes | exact tc_node | exact tc_ints | exact tc_kind | exact tc_i64 | exact tc_str | exact tc_bool))
      | (apply Y_load_r; exact rfl; exact (by first | exact tc_int | exact tc_nodes | exact tc_node | exact tc_ints | exact tc_kind | exact tc_i64 | exact tc_str | exact tc_bool); exact rfl)
      | (apply Y_len_m; exact rfl; exact (by first | exact et_nodes | exact et_ints | exact et_nodess))
      | (apply Y_len_d; exact rfl; exact (by first | exact et_nodes | exact et_ints | exact et_nodess))
      | (apply Y_lss; exact rfl; exact rfl)
      | (apply Y_leq; exact rfl; exact rfl)
      | (apply Y_gtr; exact rfl; exact rfl)
      | (apply Y_geq; exact rfl; exact rfl)
      | (apply Y_eql; exact rfl; exact rfl)
      | (apply Y_neq; exact rfl; exact rfl)
      | (apply Y_add; exact rfl; exact rfl)
      | (apply Y_sub; exact rfl; exact rfl)
      | (apply Y_mul; exact rfl; exact rfl)
      | (apply Y_not; exact rfl)
      | (apply Y_pick_t; exact rfl; exact rfl)
      | (apply Y_pick_f; exact rfl; exact rfl)
      | (apply Y_extract; exact rfl; exact rfl)
      | (apply Y_max; exact rfl; exact rfl)
      | (apply Y_move_nil; exact rfl)
      | (apply Y_assign_nil; exact rfl)
      | (apply Y_move_buf; exact rfl)
      | (apply Y_assign_buf; exact rfl)
      | (apply Y_len_buf; exact rfl; exact (by first | exact et_nodes | exact et_ints | exact et_nodess))
      | (apply Y_len_nil; exact rfl; exact (by first | exact et_nodes | exact et_ints | exact et_nodess))
      | (apply Y_move_ptr; exact rfl)
      | (apply Y_assign_ptr; exact rfl)
      | (apply Y_move_clo; exact rfl)
      | (apply Y_assign_clo; exact rfl)
      | (apply Y_field_p; exact rfl; exact (by first | exact fo_0 | exact fo_1 | exact fo_2 | exact fo_3))
      | (apply Y_load_p; exact rfl; exact (by first | exact tc_int | exact tc_nodes | exact tc_node | exact tc_ints | exact tc_kind | exact tc_i64 | exact tc_str | exact tc_bool); exact rfl; exact rfl)
      | (apply Y_load_pa; exact rfl; exact (by first | exact tc_int | exact tc_nodes | exact tc_node | exact tc_ints | exact tc_kind | exact tc_i64 | exact tc_str | exact tc_bool); exact rfl; exact rfl; exact rfl)
      | (apply Y_sl; (first | exact Co_dd rfl | exact Co_bb rfl rfl rfl | exact Co_nn rfl); exact (by first | exact es_nodes | exact es_ints | exact es_nodess); exact rfl; exact rfl; exact fun _ => rfl)
      | (apply Y_sl_l; (first | exact Co_dd rfl | exact Co_bb rfl rfl rfl | exact Co_nn rfl); exact (by first | exact es_nodes | exact es_ints | exact es_nodess); exact rfl; exact fun _ => rfl)
      | (apply Y_sl_h; (first | exact Co_dd rfl | exact Co_bb rfl rfl rfl | exact Co_nn rfl); exact (by first | exact es_nodes | exact es_ints | exact es_nodess); exact rfl; exact fun _ => rfl)
      | (apply Y_lit0; exact (by first | exact ety_nodes | exact ety_ints | exact ety_nodess); exact (by first | exact es_nodes | exact es_ints | exact es_nodess); exact (by first | exact zs_node | exact zs_int | exact zs_nodes); exact rfl)
      | (apply Y_lit1; exact (by first | exact ety_nodes | exact ety_ints | exact ety_nodess); exact (by first | exact es_nodes | exact es_ints | exact es_nodess); exact (by first | exact zs_node | exact zs_int | exact zs_nodes); exact rfl; exact rfl; (first | exact CoL_d rfl CoL_nil | exact CoL_b rfl rfl rfl CoL_nil | exact CoL_n rfl CoL_nil); exact rfl)
      | (apply Y_lit2; exact (by first | exact ety_nodes | exact ety_ints | exact ety_nodess); exact (by first | exact es_nodes | exact es_ints | exact es_nodess); exact (by first | exact zs_node | exact zs_int | exact zs_nodes); exact rfl; exact rfl; (first | exact CoL_d rfl (CoL_d rfl CoL_nil) | exact CoL_b rfl rfl rfl (CoL_b rfl rfl rfl CoL_nil)); exact rfl)
      | (apply Y_lit3; exact (by first | exact ety_nodes | exact ety_ints | exact ety_nodess); exact (by first | exact es_nodes | exact es_ints | exact es_nodess); exact (by first | exact zs_node | exact zs_int | exact zs_nodes); exact rfl; exact rfl; (exact CoL_d rfl (CoL_d rfl (CoL_d rfl CoL_nil))); exact rfl)
      | (apply Y_lit4; exact (by first | exact ety_nodes | exact ety_ints | exact ety_nodess); exact (by first | exact es_nodes | exact es_ints | exact es_nodess); exact (by first | exact zs_node | exact zs_int | exact zs_nodes); exact rfl; exact rfl; (exact CoL_d rfl (CoL_d rfl (CoL_d rfl (CoL_d rfl CoL_nil)))); exact rfl)
      | (apply Y_mkf; exact rfl)
      | (apply w1; exact rfl; exact rfl)
      | (apply k1 (hd := rfl); exact rfl; exact rfl)
      | (apply k0 (hd := rfl); exact rfl; exact rfl)
      | (apply gD; exact rfl; exact rfl; (intro hb); rotate_left; (intro hb); rotate_right)
      | (apply gN; exact rfl; exact rfl; (intro hb); rotate_left; (intro hb); rotate_right)
      | (apply g1; exact rfl; exact rfl; (intro hb); rotate_left; (intro hb); rotate_right)
      | (refine w0' ?_)
      | (apply aStore; exact rfl; exact rfl; exact rfl; exact (by first | exact tc_int | exact tc_nodes | exact tc_node | exact tc_ints | exact tc_kind | exact tc_i64 | exact tc_str | exact tc_bool); exact rfl; exact rfl; exact rfl; exact rfl)
      | (apply awp_condD; exact rfl; (intro hb); rotate_left; (intro hb); rotate_right)
      | (apply awp_condN; exact rfl; (intro hb); rotate_left; (intro hb); rotate_right)
      | (apply awp_condT; exact rfl)
      | (apply awp_condF; exact rfl)
      | (apply awp_cond; exact rfl; (intro hb); rotate_left; (intro hb); rotate_right)
      | refine awp_block ?_
      | refine awp_skip ?_
      | refine awp_ret ?_
      | refine awp_exit ?_
      | refine awp_label ?_
      | refine awp_goto ?_
      | refine awp_draw (by kernel_rfl) (by kernel_rfl) ?_
      | refine en_r ?_
      | refine en_e ?_
      | refine eb_n ?_
      | refine eb_r ?_
      | refine eb_e ?_
      | refine eb_o rfl ?_
      | refine en_g ?_
      | refine eb_g ?_
      | refine ej_n ?_
      | refine ej_r ?_
      | refine ej_e ?_
      | refine ej_g ?_
      | refine rpost_ret ?_
      | (apply res1; exact rfl)
      | (apply res1n; exact rfl)
      | (apply res1b; exact rfl; exact rfl; (first | exact rfl | (simp; done)))
      | (apply res2; exact rfl; exact rfl)
      | (apply res2n; exact rfl; exact rfl)
      | (apply res2b; exact rfl; exact rfl; (first | exact rfl | (simp; done)); exact rfl)
      | exact CoL_nil
      | refine CoL_d rfl ?_
      | refine CoL_b rfl rfl rfl ?_
      | refine CoL_n rfl ?_
      | refine CoL_v rfl ?_
    · simp only [List.length_map, List.length_range, List.length_singleton]; omega
    · simp only [List.length_map, List.length_range] at hb
      have h3 : 0 ≤ seqE L ((k : Int) + 1) (i + 1) := by
        rcases Int.lt_or_le (seqE L ((k : Int) + 1) (i + 1)) 0 with h4 | h4
        · have := seqE_neg (j := v.kids.toNat) h4 (by omega); omega
        · exact h4
      refine ⟨i + 1, ⟨by omega, h3⟩, by omega, ?_⟩
      refine Fits_mk (Le_cons rfl (Le_d rfl ?_ (Le_buf rfl ?_ (Le_cons rfl Le_nil)))) (Pre_buf rfl rfl (kids_snoc _ i).symm Pre_nil) rfl rfl
      · rw [seqE_succ hi2]
      · simp only [List.length_map, List.length_range, List.length_singleton]
    · simp only [List.length_map, List.length_range] at hb
      rw [hf, show i = v.kids.toNat by omega]; rfl
end Go.Proofs.Ytcmbbnidnddomaa
