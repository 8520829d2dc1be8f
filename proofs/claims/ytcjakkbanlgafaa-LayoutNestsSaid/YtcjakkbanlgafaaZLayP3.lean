/- The layout statements: the law LayoutWide. -/
import Derived.Test.YtcjakkbanlgafaaME
namespace Go.Proofs.Ytcjakkbanlgafaa
open Go.Sx Go.RowKit Go.Lib
attribute [local irreducible] Ylds astep alex alexE alexD awp PCall FCall RCall MCall QCall athen ablock ajump rpost fpost mpost

theorem grp_whole (L : List Nd) : wholeF (⟨44, [], 0, 1⟩ :: L) = wholeF L := by
  have h1 : endF (⟨44, [], 0, 1⟩ :: L) ((0 : Nat) : Int) = shE 1 (endF L (0 : Nat)) := by
    rw [endF_rec (x := ⟨44, [], 0, 1⟩) rfl, if_neg (by simp only [List.length_cons]; omega)]
    show (if seqE (⟨44, [], 0, 1⟩ :: L) (((0 : Nat) : Int) + 1) 0 < 0 then -1 else endF (⟨44, [], 0, 1⟩ :: L) (seqE (⟨44, [], 0, 1⟩ :: L) (((0 : Nat) : Int) + 1) 0)) = _
    rw [if_neg (by simp only [seqE]; omega)]
    exact endF_shift [⟨44, [], 0, 1⟩] L 0
  have h2 := endF_bd L (0 : Nat)
  have h1' : endF (⟨44, [], 0, 1⟩ :: L) 0 = shE 1 (endF L 0) := h1
  have h2' : endF L 0 = -1 ∨ 0 ≤ (0 : Int) ∧ 0 < endF L 0 ∧ endF L 0 ≤ L.length := h2
  unfold wholeF
  rw [h1', List.length_cons, decide_eq_true (show L.length + 1 > 0 by omega), Bool.true_and]
  by_cases h : endF L 0 = L.length
  · have hp : L.length > 0 := by omega
    rw [decide_eq_true hp, decide_eq_true h, Bool.true_and]
    refine decide_eq_true ?_
    unfold shE; rw [if_neg (by omega)]; omega
  · rw [decide_eq_false h, Bool.and_false]
    refine decide_eq_false ?_
    unfold shE; split <;> omega
theorem grp_chk {L : List Nd} (h : L.length ≤ 60) : chkF (⟨44, [], 0, 1⟩ :: L) = chkF L := by
  unfold chkF
  rw [grp_whole, List.length_cons, decide_eq_true (show L.length + 1 ≤ 4000 by omega), decide_eq_true (show L.length ≤ 4000 by omega), List.all_cons, show rightF ⟨44, [], 0, 1⟩ = true by decide, Bool.true_and (L.all rightF)]
theorem flN_all {L : List Nd} (hc : chkF L = true) (ht : ∀ n ∈ L, n.text.length ≤ 1000) : (flN L L.length 0).length = sizeF L ∧ endF L (0 : Nat) = L.length := by
  obtain ⟨hD, he⟩ := chk_doc hc ht
  have hw : endF L (0 : Nat) = L.length := by
    unfold chkF wholeF at hc
    simp only [Bool.and_eq_true, decide_eq_true_eq] at hc
    exact hc.1.2.2
  have h1 := flN_len hD.right L.length 0 (by omega) he
  rw [hw, Int.toNat_natCast] at h1
  refine ⟨h1.trans ?_, hw⟩
  unfold part
  rw [List.take_length]; rfl
theorem grp_lay {L : List Nd} (hc : chkF L = true) (ht : ∀ n ∈ L, n.text.length ≤ 1000) (w : Nat) : layF (⟨44, [], 0, 1⟩ :: L) w = if (flN L L.length 0).length ≤ w then flN L L.length 0 else layF L w := by
  obtain ⟨hD, he⟩ := chk_doc hc ht
  obtain ⟨h1, h2⟩ := flN_all hc ht
  have hwh : wholeF (⟨44, [], 0, 1⟩ :: L) = true := by
    rw [grp_whole]; unfold chkF at hc; simp only [Bool.and_eq_true] at hc; exact hc.1.2
  have hend : endF (⟨44, [], 0, 1⟩ :: L) ((0 : Nat) : Int) = ((L.length + 1 : Nat) : Int) := by
    unfold wholeF at hwh; simp only [Bool.and_eq_true, decide_eq_true_eq] at hwh; exact hwh.2
  have hsz : sizeF (((⟨44, [], 0, 1⟩ :: L : List Nd).take (endF (⟨44, [], 0, 1⟩ :: L) ((0 : Nat) : Int)).toNat).drop 0) = sizeF L := by
    rw [hend, Int.toNat_natCast, List.drop_zero, List.take_of_length_le (by simp)]
    simp [sizeF]
  have hsh : ∀ fl, layN (⟨44, [], 0, 1⟩ :: L) w L.length 1 0 fl ⟨false, [], 0, 0⟩ = layN L w L.length 0 0 fl ⟨false, [], 0, 0⟩ := fun fl => layN_shift (P := [⟨44, [], 0, 1⟩]) L.length 0 0 fl _ he
  have e : layF (⟨44, [], 0, 1⟩ :: L) w = (layN L w L.length 0 0 (decide ((flN L L.length 0).length ≤ w)) ⟨false, [], 0, 0⟩).out := by
    unfold layF
    rw [List.length_cons]
    have hn : (⟨44, [], 0, 1⟩ :: L : List Nd)[0]? = some ⟨44, [], 0, 1⟩ := rfl
    simp only [layN, hn]
    rw [if_neg (by decide), if_neg (by decide), if_neg (by decide), if_pos trivial, hsz, Bool.false_or, Nat.zero_add, ← h1]
    exact congrArg Pen.out (hsh _)
  rw [e]
  by_cases h : (flN L L.length 0).length ≤ w
  · rw [decide_eq_true h, if_pos h]; exact layN_true hD.right L.length 0 0 ⟨false, [], 0, 0⟩
  · rw [decide_eq_false h, if_neg h]; rfl

set_option maxHeartbeats 4000000 in
theorem Wide_ok (L : List Nd) (w : Int) : PCall Try.prog 6 [nodes L, i64 w] (bl true) := by
  by_cases hn : (L.length : Int) > 60
  · refine pcall_of Try.func6 rfl Try.ntmps6 Try.results6 rfl ?_
    intro wb St0
    repeat' first
      | refine en_n ?_
      | refine awp_seq ?_
      | refine awp_region ?_
      | refine alex_nil ?_
      | refine w0 ?_
      | (apply kU (hd := rfl); exact rfl; exact rfl)
      | (apply k1u (hd := rfl); exact rfl; exact rfl)
      | (apply k0u (hd := rfl); exact rfl; exact rfl)
      | (apply Y_lssT; exact rfl; exact rfl; first
      | assumption
      | omega)
      | (apply Y_lssF; exact rfl; exact rfl; first
      | assumption
      | omega)
      | (apply Y_leqT; exact rfl; exact rfl; first
      | assumption
      | omega)
      | (apply Y_leqF; exact rfl; exact rfl; first
      | assumption
      | omega)
      | (apply Y_gtrT; exact rfl; exact rfl; first
      | assumption
      | omega)
      | (apply Y_gtrF; exact rfl; exact rfl; first
      | assumption
      | omega)
      | (apply Y_geqT; exact rfl; exact rfl; first
      | assumption
      | omega)
      | (apply Y_geqF; exact rfl; exact rfl; first
      | assumption
      | omega)
      | (apply Y_eqlT; exact rfl; exact rfl; first
      | assumption
      | omega)
      | (apply Y_eqlF; exact rfl; exact rfl; first
      | assumption
      | omega)
      | (apply Y_neqT; exact rfl; exact rfl; first
      | assumption
      | omega)
      | (apply Y_neqF; exact rfl; exact rfl; first
      | assumption
      | omega)
      | (refine Y_call hb_awake awake_ok CoL_nil)
      | (apply aJ (hd := rfl); (first | exact Co_dd rfl | exact Co_bb rfl rfl rfl | exact Co_nn rfl); exact rfl; exact (by first | exact es_nodes | exact es_ints | exact es_nodess); assumption; omega; exact fun _ => rfl)
      | (apply aI (hd := rfl); (first | exact Co_dd rfl | exact Co_bb rfl rfl rfl | exact Co_nn rfl); exact rfl; exact (by first | exact es_nodes | exact es_ints | exact es_nodess); exact fun _ => rfl; rotate_left; intro v hv; rotate_right)
      | (apply aApp (hd := rfl) (hro := rfl); exact rfl; exact rfl; (first | exact Co_dd rfl | exact Co_bb rfl rfl rfl | exact Co_nn rfl); (first | exact rfl | (simp; done)); exact rfl; exact (by first | exact ety_nodes | exact ety_ints | exact ety_nodess); exact (by first | exact es_nodes | exact es_ints | exact es_nodess); exact (by first | exact zl_node | exact zl_int | exact zl_nodes); exact (by first | exact by_nodes | exact by_ints | exact by_nodess); (first | exact sz_map (fun _ => rfl) | exact sz_lit rfl))
      | (apply aBox (hd := rfl) (hro := rfl); exact rfl; exact rfl)
      | (apply aAlloc (hd := rfl) (hro := rfl); exact (by first | exact zo_node | exact zo_int))
      | apply ay (hd := rfl)
      | (apply Y_move_d; exact rfl)
      | (apply Y_assign_d; exact rfl)
      | (apply Y_field_r; exact rfl; exact (by first | exact fo_0 | exact fo_1 | exact fo_2 | exact fo_3))
      | (apply Y_load_r1; exact rfl; exact (by first | exact tc_int | exact tc_nodes | exact tc_node | exact tc_ints | exact tc_kind | exact tc_i64 | exact tc_str | exact tc_bool))
      | (apply Y_load_r; exact rfl; exact (by first | exact tc_int | exact tc_nodes | exact tc_node | exact tc_ints | exact tc_kind | exact tc_i64 | exact tc_str | exact tc_bool); exact rfl)
      | (apply Y_len_m; exact rfl; exact (by first | exact et_nodes | exact et_ints | exact et_nodess))
      | (apply Y_len_d; exact rfl; exact (by first | exact et_nodes | exact et_ints | exact et_nodess))
      | (apply Y_lss; exact rfl; exact rfl)
      | (apply Y_leq; exact rfl; exact rfl)
      | (apply Y_gtr; exact rfl; exact rfl)
      | (apply Y_geq; exact rfl; exact rfl)
      | (apply Y_eql; exact rfl; exact rfl)
      | (apply Y_neq; exact rfl; exact rfl)
      | (apply Y_add; exact rfl; exact rfl)
      | (apply Y_sub; exact rfl; exact rfl)
      | (apply Y_mul; exact rfl; exact rfl)
      | (apply Y_not; exact rfl)
      | (apply Y_pick_t; exact rfl; exact rfl)
      | (apply Y_pick_f; exact rfl; exact rfl)
      | (apply Y_extract; exact rfl; exact rfl)
      | (apply Y_max; exact rfl; exact rfl)
      | (apply Y_move_nil; exact rfl)
      | (apply Y_assign_nil; exact rfl)
      | (apply Y_move_buf; exact rfl)
      | (apply Y_assign_buf; exact rfl)
      | (apply Y_len_buf; exact rfl; exact (by first | exact et_nodes | exact et_ints | exact et_nodess))
      | (apply Y_len_nil; exact rfl; exact (by first | exact et_nodes | exact et_ints | exact et_nodess))
      | (apply Y_move_ptr; exact rfl)
      | (apply Y_assign_ptr; exact rfl)
      | (apply Y_move_clo; exact rfl)
      | (apply Y_assign_clo; exact rfl)
      | (apply Y_field_p; exact rfl; exact (by first | exact fo_0 | exact fo_1 | exact fo_2 | exact fo_3))
      | (apply Y_load_p; exact rfl; exact (by first | exact tc_int | exact tc_nodes | exact tc_node | exact tc_ints | exact tc_kind | exact tc_i64 | exact tc_str | exact tc_bool); exact rfl; exact rfl)
      | (apply Y_load_pa; exact rfl; exact (by first | exact tc_int | exact tc_nodes | exact tc_node | exact tc_ints | exact tc_kind | exact tc_i64 | exact tc_str | exact tc_bool); exact rfl; exact rfl; exact rfl)
      | (apply Y_sl; (first | exact Co_dd rfl | exact Co_bb rfl rfl rfl | exact Co_nn rfl); exact (by first | exact es_nodes | exact es_ints | exact es_nodess); exact rfl; exact rfl; exact fun _ => rfl)
      | (apply Y_sl_l; (first | exact Co_dd rfl | exact Co_bb rfl rfl rfl | exact Co_nn rfl); exact (by first | exact es_nodes | exact es_ints | exact es_nodess); exact rfl; exact fun _ => rfl)
      | (apply Y_sl_h; (first | exact Co_dd rfl | exact Co_bb rfl rfl rfl | exact Co_nn rfl); exact (by first | exact es_nodes | exact es_ints | exact es_nodess); exact rfl; exact fun _ => rfl)
      | (apply Y_lit0; exact (by first | exact ety_nodes | exact ety_ints | exact ety_nodess); exact (by first | exact es_nodes | exact es_ints | exact es_nodess); exact (by first | exact zs_node | exact zs_int | exact zs_nodes); exact rfl)
      | (apply Y_lit1; exact (by first | exact ety_nodes | exact ety_ints | exact ety_nodess); exact (by first | exact es_nodes | exact es_ints | exact es_nodess); exact (by first | exact zs_node | exact zs_int | exact zs_nodes); exact rfl; exact rfl; (first | exact CoL_d rfl CoL_nil | exact CoL_b rfl rfl rfl CoL_nil | exact CoL_n rfl CoL_nil); exact rfl)
      | (apply Y_lit2; exact (by first | exact ety_nodes | exact ety_ints | exact ety_nodess); exact (by first | exact es_nodes | exact es_ints | exact es_nodess); exact (by first | exact zs_node | exact zs_int | exact zs_nodes); exact rfl; exact rfl; (first | exact CoL_d rfl (CoL_d rfl CoL_nil) | exact CoL_b rfl rfl rfl (CoL_b rfl rfl rfl CoL_nil)); exact rfl)
      | (apply Y_lit3; exact (by first | exact ety_nodes | exact ety_ints | exact ety_nodess); exact (by first | exact es_nodes | exact es_ints | exact es_nodess); exact (by first | exact zs_node | exact zs_int | exact zs_nodes); exact rfl; exact rfl; (exact CoL_d rfl (CoL_d rfl (CoL_d rfl CoL_nil))); exact rfl)
      | (apply Y_lit4; exact (by first | exact ety_nodes | exact ety_ints | exact ety_nodess); exact (by first | exact es_nodes | exact es_ints | exact es_nodess); exact (by first | exact zs_node | exact zs_int | exact zs_nodes); exact rfl; exact rfl; (exact CoL_d rfl (CoL_d rfl (CoL_d rfl (CoL_d rfl CoL_nil)))); exact rfl)
      | (apply Y_mkf; exact rfl)
      | (apply w1; exact rfl; exact rfl)
      | (apply k1 (hd := rfl); exact rfl; exact rfl)
      | (apply k0 (hd := rfl); exact rfl; exact rfl)
      | (apply gD; exact rfl; exact rfl; (intro hb); rotate_left; (intro hb); rotate_right)
      | (apply gN; exact rfl; exact rfl; (intro hb); rotate_left; (intro hb); rotate_right)
      | (apply g1; exact rfl; exact rfl; (intro hb); rotate_left; (intro hb); rotate_right)
      | (refine w0' ?_)
      | (apply aStore; exact rfl; exact rfl; exact rfl; exact (by first | exact tc_int | exact tc_nodes | exact tc_node | exact tc_ints | exact tc_kind | exact tc_i64 | exact tc_str | exact tc_bool); exact rfl; exact rfl; exact rfl; exact rfl)
      | (apply awp_condD; exact rfl; (intro hb); rotate_left; (intro hb); rotate_right)
      | (apply awp_condN; exact rfl; (intro hb); rotate_left; (intro hb); rotate_right)
      | (apply awp_condT; exact rfl)
      | (apply awp_condF; exact rfl)
      | (apply awp_cond; exact rfl; (intro hb); rotate_left; (intro hb); rotate_right)
      | refine awp_block ?_
      | refine awp_skip ?_
      | refine awp_ret ?_
      | refine awp_exit ?_
      | refine awp_label ?_
      | refine awp_goto ?_
      | refine awp_draw (by kernel_rfl) (by kernel_rfl) ?_
      | refine en_r ?_
      | refine en_e ?_
      | refine eb_n ?_
      | refine eb_r ?_
      | refine eb_e ?_
      | refine eb_o rfl ?_
      | refine en_g ?_
      | refine eb_g ?_
      | refine ej_n ?_
      | refine ej_r ?_
      | refine ej_e ?_
      | refine ej_g ?_
      | refine rpost_ret ?_
      | (apply res1; exact rfl)
      | (apply res1n; exact rfl)
      | (apply res1b; exact rfl; exact rfl; (first | exact rfl | (simp; done)))
      | (apply res2; exact rfl; exact rfl)
      | (apply res2n; exact rfl; exact rfl)
      | (apply res2b; exact rfl; exact rfl; (first | exact rfl | (simp; done)); exact rfl)
      | exact CoL_nil
      | refine CoL_d rfl ?_
      | refine CoL_b rfl rfl rfl ?_
      | refine CoL_n rfl ?_
      | refine CoL_v rfl ?_
    rfl
  have hlo := long_ok L (by omega)
  have hL : L.length ≤ 2000000 := by omega
  cases hl : longF L with
  | true =>
    rw [hl] at hlo
    refine pcall_of Try.func6 rfl Try.ntmps6 Try.results6 rfl ?_
    intro wb St0
    repeat' first
      | refine en_n ?_
      | refine awp_seq ?_
      | refine awp_region ?_
      | refine alex_nil ?_
      | refine w0 ?_
      | (apply kU (hd := rfl); exact rfl; exact rfl)
      | (apply k1u (hd := rfl); exact rfl; exact rfl)
      | (apply k0u (hd := rfl); exact rfl; exact rfl)
      | (apply Y_lssT; exact rfl; exact rfl; first
      | assumption
      | omega)
      | (apply Y_lssF; exact rfl; exact rfl; first
      | assumption
      | omega)
      | (apply Y_leqT; exact rfl; exact rfl; first
      | assumption
      | omega)
      | (apply Y_leqF; exact rfl; exact rfl; first
      | assumption
      | omega)
      | (apply Y_gtrT; exact rfl; exact rfl; first
      | assumption
      | omega)
      | (apply Y_gtrF; exact rfl; exact rfl; first
      | assumption
      | omega)
      | (apply Y_geqT; exact rfl; exact rfl; first
      | assumption
      | omega)
      | (apply Y_geqF; exact rfl; exact rfl; first
      | assumption
      | omega)
      | (apply Y_eqlT; exact rfl; exact rfl; first
      | assumption
      | omega)
      | (apply Y_eqlF; exact rfl; exact rfl; first
      | assumption
      | omega)
      | (apply Y_neqT; exact rfl; exact rfl; first
      | assumption
      | omega)
      | (apply Y_neqF; exact rfl; exact rfl; first
      | assumption
      | omega)
      | (refine Y_call hb_awake awake_ok CoL_nil)
      | (apply Y_call (hb := hb_long) (hc := hlo))
      | (apply aJ (hd := rfl); (first | exact Co_dd rfl | exact Co_bb rfl rfl rfl | exact Co_nn rfl); exact rfl; exact (by first | exact es_nodes | exact es_ints | exact es_nodess); assumption; omega; exact fun _ => rfl)
      | (apply aI (hd := rfl); (first | exact Co_dd rfl | exact Co_bb rfl rfl rfl | exact Co_nn rfl); exact rfl; exact (by first | exact es_nodes | exact es_ints | exact es_nodess); exact fun _ => rfl; rotate_left; intro v hv; rotate_right)
      | (apply aApp (hd := rfl) (hro := rfl); exact rfl; exact rfl; (first | exact Co_dd rfl | exact Co_bb rfl rfl rfl | exact Co_nn rfl); (first | exact rfl | (simp; done)); exact rfl; exact (by first | exact ety_nodes | exact ety_ints | exact ety_nodess); exact (by first | exact es_nodes | exact es_ints | exact es_nodess); exact (by first | exact zl_node | exact zl_int | exact zl_nodes); exact (by first | exact by_nodes | exact by_ints | exact by_nodess); (first | exact sz_map (fun _ => rfl) | exact sz_lit rfl))
      | (apply aBox (hd := rfl) (hro := rfl); exact rfl; exact rfl)
      | (apply aAlloc (hd := rfl) (hro := rfl); exact (by first | exact zo_node | exact zo_int))
      | apply ay (hd := rfl)
      | (apply Y_move_d; exact rfl)
      | (apply Y_assign_d; exact rfl)
      | (apply Y_field_r; exact rfl; exact (by first | exact fo_0 | exact fo_1 | exact fo_2 | exact fo_3))
      | (apply Y_load_r1; exact rfl; exact (by first | exact tc_int | exact tc_nodes | exact tc_node | exact tc_ints | exact tc_kind | exact tc_i64 | exact tc_str | exact tc_bool))
      | (apply Y_load_r; exact rfl; exact (by first | exact tc_int | exact tc_nodes | exact tc_node | exact tc_ints | exact tc_kind | exact tc_i64 | exact tc_str | exact tc_bool); exact rfl)
      | (apply Y_len_m; exact rfl; exact (by first | exact et_nodes | exact et_ints | exact et_nodess))
      | (apply Y_len_d; exact rfl; exact (by first | exact et_nodes | exact et_ints | exact et_nodess))
      | (apply Y_lss; exact rfl; exact rfl)
      | (apply Y_leq; exact rfl; exact rfl)
      | (apply Y_gtr; exact rfl; exact rfl)
      | (apply Y_geq; exact rfl; exact rfl)
      | (apply Y_eql; exact rfl; exact rfl)
      | (apply Y_neq; exact rfl; exact rfl)
      | (apply Y_add; exact rfl; exact rfl)
      | (apply Y_sub; exact rfl; exact rfl)
      | (apply Y_mul; exact rfl; exact rfl)
      | (apply Y_not; exact rfl)
      | (apply Y_pick_t; exact rfl; exact rfl)
      | (apply Y_pick_f; exact rfl; exact rfl)
      | (apply Y_extract; exact rfl; exact rfl)
      | (apply Y_max; exact rfl; exact rfl)
      | (apply Y_move_nil; exact rfl)
      | (apply Y_assign_nil; exact rfl)
      | (apply Y_move_buf; exact rfl)
      | (apply Y_assign_buf; exact rfl)
      | (apply Y_len_buf; exact rfl; exact (by first | exact et_nodes | exact et_ints | exact et_nodess))
      | (apply Y_len_nil; exact rfl; exact (by first | exact et_nodes | exact et_ints | exact et_nodess))
      | (apply Y_move_ptr; exact rfl)
      | (apply Y_assign_ptr; exact rfl)
      | (apply Y_move_clo; exact rfl)
      | (apply Y_assign_clo; exact rfl)
      | (apply Y_field_p; exact rfl; exact (by first | exact fo_0 | exact fo_1 | exact fo_2 | exact fo_3))
      | (apply Y_load_p; exact rfl; exact (by first | exact tc_int | exact tc_nodes | exact tc_node | exact tc_ints | exact tc_kind | exact tc_i64 | exact tc_str | exact tc_bool); exact rfl; exact rfl)
      | (apply Y_load_pa; exact rfl; exact (by first | exact tc_int | exact tc_nodes | exact tc_node | exact tc_ints | exact tc_kind | exact tc_i64 | exact tc_str | exact tc_bool); exact rfl; exact rfl; exact rfl)
      | (apply Y_sl; (first | exact Co_dd rfl | exact Co_bb rfl rfl rfl | exact Co_nn rfl); exact (by first | exact es_nodes | exact es_ints | exact es_nodess); exact rfl; exact rfl; exact fun _ => rfl)
      | (apply Y_sl_l; (first | exact Co_dd rfl | exact Co_bb rfl rfl rfl | exact Co_nn rfl); exact (by first | exact es_nodes | exact es_ints | exact es_nodess); exact rfl; exact fun _ => rfl)
      | (apply Y_sl_h; (first | exact Co_dd rfl | exact Co_bb rfl rfl rfl | exact Co_nn rfl); exact (by first | exact es_nodes | exact es_ints | exact es_nodess); exact rfl; exact fun _ => rfl)
      | (apply Y_lit0; exact (by first | exact ety_nodes | exact ety_ints | exact ety_nodess); exact (by first | exact es_nodes | exact es_ints | exact es_nodess); exact (by first | exact zs_node | exact zs_int | exact zs_nodes); exact rfl)
      | (apply Y_lit1; exact (by first | exact ety_nodes | exact ety_ints | exact ety_nodess); exact (by first | exact es_nodes | exact es_ints | exact es_nodess); exact (by first | exact zs_node | exact zs_int | exact zs_nodes); exact rfl; exact rfl; (first | exact CoL_d rfl CoL_nil | exact CoL_b rfl rfl rfl CoL_nil | exact CoL_n rfl CoL_nil); exact rfl)
      | (apply Y_lit2; exact (by first | exact ety_nodes | exact ety_ints | exact ety_nodess); exact (by first | exact es_nodes | exact es_ints | exact es_nodess); exact (by first | exact zs_node | exact zs_int | exact zs_nodes); exact rfl; exact rfl; (first | exact CoL_d rfl (CoL_d rfl CoL_nil) | exact CoL_b rfl rfl rfl (CoL_b rfl rfl rfl CoL_nil)); exact rfl)
      | (apply Y_lit3; exact (by first | exact ety_nodes | exact ety_ints | exact ety_nodess); exact (by first | exact es_nodes | exact es_ints | exact es_nodess); exact (by first | exact zs_node | exact zs_int | exact zs_nodes); exact rfl; exact rfl; (exact CoL_d rfl (CoL_d rfl (CoL_d rfl CoL_nil))); exact rfl)
      | (apply Y_lit4; exact (by first | exact ety_nodes | exact ety_ints | exact ety_nodess); exact (by first | exact es_nodes | exact es_ints | exact es_nodess); exact (by first | exact zs_node | exact zs_int | exact zs_nodes); exact rfl; exact rfl; (exact CoL_d rfl (CoL_d rfl (CoL_d rfl (CoL_d rfl CoL_nil)))); exact rfl)
      | (apply Y_mkf; exact rfl)
      | (apply w1; exact rfl; exact rfl)
      | (apply k1 (hd := rfl); exact rfl; exact rfl)
      | (apply k0 (hd := rfl); exact rfl; exact rfl)
      | (apply gD; exact rfl; exact rfl; (intro hb); rotate_left; (intro hb); rotate_right)
      | (apply gN; exact rfl; exact rfl; (intro hb); rotate_left; (intro hb); rotate_right)
      | (apply g1; exact rfl; exact rfl; (intro hb); rotate_left; (intro hb); rotate_right)
      | (refine w0' ?_)
      | (apply aStore; exact rfl; exact rfl; exact rfl; exact (by first | exact tc_int | exact tc_nodes | exact tc_node | exact tc_ints | exact tc_kind | exact tc_i64 | exact tc_str | exact tc_bool); exact rfl; exact rfl; exact rfl; exact rfl)
      | (apply awp_condD; exact rfl; (intro hb); rotate_left; (intro hb); rotate_right)
      | (apply awp_condN; exact rfl; (intro hb); rotate_left; (intro hb); rotate_right)
      | (apply awp_condT; exact rfl)
      | (apply awp_condF; exact rfl)
      | (apply awp_cond; exact rfl; (intro hb); rotate_left; (intro hb); rotate_right)
      | refine awp_block ?_
      | refine awp_skip ?_
      | refine awp_ret ?_
      | refine awp_exit ?_
      | refine awp_label ?_
      | refine awp_goto ?_
      | refine awp_draw (by kernel_rfl) (by kernel_rfl) ?_
      | refine en_r ?_
      | refine en_e ?_
      | refine eb_n ?_
      | refine eb_r ?_
      | refine eb_e ?_
      | refine eb_o rfl ?_
      | refine en_g ?_
      | refine eb_g ?_
      | refine ej_n ?_
      | refine ej_r ?_
      | refine ej_e ?_
      | refine ej_g ?_
      | refine rpost_ret ?_
      | (apply res1; exact rfl)
      | (apply res1n; exact rfl)
      | (apply res1b; exact rfl; exact rfl; (first | exact rfl | (simp; done)))
      | (apply res2; exact rfl; exact rfl)
      | (apply res2n; exact rfl; exact rfl)
      | (apply res2b; exact rfl; exact rfl; (first | exact rfl | (simp; done)); exact rfl)
      | exact CoL_nil
      | refine CoL_d rfl ?_
      | refine CoL_b rfl rfl rfl ?_
      | refine CoL_n rfl ?_
      | refine CoL_v rfl ?_
    rfl
  | false =>
    rw [hl] at hlo
    have ht := long_no hl
    have how := own_ok L hL
    by_cases hw : w < 1 ∨ w > 1000
    · refine pcall_of Try.func6 rfl Try.ntmps6 Try.results6 rfl ?_
      intro wb St0
      repeat' first
        | refine en_n ?_
        | refine awp_seq ?_
        | refine awp_region ?_
        | refine alex_nil ?_
        | refine w0 ?_
        | (apply Y_strT; exact rfl; exact rfl; exact rfl)
        | (apply Y_neqs; exact rfl; exact rfl)
        | (apply Y_eqlT; exact rfl; exact rfl; exact rfl)
        | (apply kU (hd := rfl); exact rfl; exact rfl)
        | (apply k1u (hd := rfl); exact rfl; exact rfl)
        | (apply k0u (hd := rfl); exact rfl; exact rfl)
        | (apply Y_lssT; exact rfl; exact rfl; first
        | assumption
        | omega)
        | (apply Y_lssF; exact rfl; exact rfl; first
        | assumption
        | omega)
        | (apply Y_leqT; exact rfl; exact rfl; first
        | assumption
        | omega)
        | (apply Y_leqF; exact rfl; exact rfl; first
        | assumption
        | omega)
        | (apply Y_gtrT; exact rfl; exact rfl; first
        | assumption
        | omega)
        | (apply Y_gtrF; exact rfl; exact rfl; first
        | assumption
        | omega)
        | (apply Y_geqT; exact rfl; exact rfl; first
        | assumption
        | omega)
        | (apply Y_geqF; exact rfl; exact rfl; first
        | assumption
        | omega)
        | (apply Y_eqlT; exact rfl; exact rfl; first
        | assumption
        | omega)
        | (apply Y_eqlF; exact rfl; exact rfl; first
        | assumption
        | omega)
        | (apply Y_neqT; exact rfl; exact rfl; first
        | assumption
        | omega)
        | (apply Y_neqF; exact rfl; exact rfl; first
        | assumption
        | omega)
        | (refine Y_call hb_awake awake_ok CoL_nil)
        | (apply Y_call (hb := hb_long) (hc := hlo))
        | (apply aJ (hd := rfl); (first | exact Co_dd rfl | exact Co_bb rfl rfl rfl | exact Co_nn rfl); exact rfl; exact (by first | exact es_nodes | exact es_ints | exact es_nodess); assumption; omega; exact fun _ => rfl)
        | (apply aI (hd := rfl); (first | exact Co_dd rfl | exact Co_bb rfl rfl rfl | exact Co_nn rfl); exact rfl; exact (by first | exact es_nodes | exact es_ints | exact es_nodess); exact fun _ => rfl; rotate_left; intro v hv; rotate_right)
        | (apply aApp (hd := rfl) (hro := rfl); exact rfl; exact rfl; (first | exact Co_dd rfl | exact Co_bb rfl rfl rfl | exact Co_nn rfl); (first | exact rfl | (simp; done)); exact rfl; exact (by first | exact ety_nodes | exact ety_ints | exact ety_nodess); exact (by first | exact es_nodes | exact es_ints | exact es_nodess); exact (by first | exact zl_node | exact zl_int | exact zl_nodes); exact (by first | exact by_nodes | exact by_ints | exact by_nodess); (first | exact sz_map (fun _ => rfl) | exact sz_lit rfl))
        | (apply aBox (hd := rfl) (hro := rfl); exact rfl; exact rfl)
        | (apply aAlloc (hd := rfl) (hro := rfl); exact (by first | exact zo_node | exact zo_int))
        | apply ay (hd := rfl)
        | (apply Y_move_d; exact rfl)
        | (apply Y_assign_d; exact rfl)
        | (apply Y_field_r; exact rfl; exact (by first | exact fo_0 | exact fo_1 | exact fo_2 | exact fo_3))
        | (apply Y_load_r1; exact rfl; exact (by first | exact tc_int | exact tc_nodes | exact tc_node | exact tc_ints | exact tc_kind | exact tc_i64 | exact tc_str | exact tc_bool))
        | (apply Y_load_r; exact rfl; exact (by first | exact tc_int | exact tc_nodes | exact tc_node | exact tc_ints | exact tc_kind | exact tc_i64 | exact tc_str | exact tc_bool); exact rfl)
        | (apply Y_len_m; exact rfl; exact (by first | exact et_nodes | exact et_ints | exact et_nodess))
        | (apply Y_len_d; exact rfl; exact (by first | exact et_nodes | exact et_ints | exact et_nodess))
        | (apply Y_lss; exact rfl; exact rfl)
        | (apply Y_leq; exact rfl; exact rfl)
        | (apply Y_gtr; exact rfl; exact rfl)
        | (apply Y_geq; exact rfl; exact rfl)
        | (apply Y_eql; exact rfl; exact rfl)
        | (apply Y_neq; exact rfl; exact rfl)
        | (apply Y_add; exact rfl; exact rfl)
        | (apply Y_sub; exact rfl; exact rfl)
        | (apply Y_mul; exact rfl; exact rfl)
        | (apply Y_not; exact rfl)
        | (apply Y_pick_t; exact rfl; exact rfl)
        | (apply Y_pick_f; exact rfl; exact rfl)
        | (apply Y_extract; exact rfl; exact rfl)
        | (apply Y_max; exact rfl; exact rfl)
        | (apply Y_move_nil; exact rfl)
        | (apply Y_assign_nil; exact rfl)
        | (apply Y_move_buf; exact rfl)
        | (apply Y_assign_buf; exact rfl)
        | (apply Y_len_buf; exact rfl; exact (by first | exact et_nodes | exact et_ints | exact et_nodess))
        | (apply Y_len_nil; exact rfl; exact (by first | exact et_nodes | exact et_ints | exact et_nodess))
        | (apply Y_move_ptr; exact rfl)
        | (apply Y_assign_ptr; exact rfl)
        | (apply Y_move_clo; exact rfl)
        | (apply Y_assign_clo; exact rfl)
        | (apply Y_field_p; exact rfl; exact (by first | exact fo_0 | exact fo_1 | exact fo_2 | exact fo_3))
        | (apply Y_load_p; exact rfl; exact (by first | exact tc_int | exact tc_nodes | exact tc_node | exact tc_ints | exact tc_kind | exact tc_i64 | exact tc_str | exact tc_bool); exact rfl; exact rfl)
        | (apply Y_load_pa; exact rfl; exact (by first | exact tc_int | exact tc_nodes | exact tc_node | exact tc_ints | exact tc_kind | exact tc_i64 | exact tc_str | exact tc_bool); exact rfl; exact rfl; exact rfl)
        | (apply Y_sl; (first | exact Co_dd rfl | exact Co_bb rfl rfl rfl | exact Co_nn rfl); exact (by first | exact es_nodes | exact es_ints | exact es_nodess); exact rfl; exact rfl; exact fun _ => rfl)
        | (apply Y_sl_l; (first | exact Co_dd rfl | exact Co_bb rfl rfl rfl | exact Co_nn rfl); exact (by first | exact es_nodes | exact es_ints | exact es_nodess); exact rfl; exact fun _ => rfl)
        | (apply Y_sl_h; (first | exact Co_dd rfl | exact Co_bb rfl rfl rfl | exact Co_nn rfl); exact (by first | exact es_nodes | exact es_ints | exact es_nodess); exact rfl; exact fun _ => rfl)
        | (apply Y_lit0; exact (by first | exact ety_nodes | exact ety_ints | exact ety_nodess); exact (by first | exact es_nodes | exact es_ints | exact es_nodess); exact (by first | exact zs_node | exact zs_int | exact zs_nodes); exact rfl)
        | (apply Y_lit1; exact (by first | exact ety_nodes | exact ety_ints | exact ety_nodess); exact (by first | exact es_nodes | exact es_ints | exact es_nodess); exact (by first | exact zs_node | exact zs_int | exact zs_nodes); exact rfl; exact rfl; (first | exact CoL_d rfl CoL_nil | exact CoL_b rfl rfl rfl CoL_nil | exact CoL_n rfl CoL_nil); exact rfl)
        | (apply Y_lit2; exact (by first | exact ety_nodes | exact ety_ints | exact ety_nodess); exact (by first | exact es_nodes | exact es_ints | exact es_nodess); exact (by first | exact zs_node | exact zs_int | exact zs_nodes); exact rfl; exact rfl; (first | exact CoL_d rfl (CoL_d rfl CoL_nil) | exact CoL_b rfl rfl rfl (CoL_b rfl rfl rfl CoL_nil)); exact rfl)
        | (apply Y_lit3; exact (by first | exact ety_nodes | exact ety_ints | exact ety_nodess); exact (by first | exact es_nodes | exact es_ints | exact es_nodess); exact (by first | exact zs_node | exact zs_int | exact zs_nodes); exact rfl; exact rfl; (exact CoL_d rfl (CoL_d rfl (CoL_d rfl CoL_nil))); exact rfl)
        | (apply Y_lit4; exact (by first | exact ety_nodes | exact ety_ints | exact ety_nodess); exact (by first | exact es_nodes | exact es_ints | exact es_nodess); exact (by first | exact zs_node | exact zs_int | exact zs_nodes); exact rfl; exact rfl; (exact CoL_d rfl (CoL_d rfl (CoL_d rfl (CoL_d rfl CoL_nil)))); exact rfl)
        | (apply Y_mkf; exact rfl)
        | (apply w1; exact rfl; exact rfl)
        | (apply k1 (hd := rfl); exact rfl; exact rfl)
        | (apply k0 (hd := rfl); exact rfl; exact rfl)
        | (apply gD; exact rfl; exact rfl; (intro hb); rotate_left; (intro hb); rotate_right)
        | (apply gN; exact rfl; exact rfl; (intro hb); rotate_left; (intro hb); rotate_right)
        | (apply g1; exact rfl; exact rfl; (intro hb); rotate_left; (intro hb); rotate_right)
        | (refine w0' ?_)
        | (apply aStore; exact rfl; exact rfl; exact rfl; exact (by first | exact tc_int | exact tc_nodes | exact tc_node | exact tc_ints | exact tc_kind | exact tc_i64 | exact tc_str | exact tc_bool); exact rfl; exact rfl; exact rfl; exact rfl)
        | (apply awp_condD; exact rfl; (intro hb); rotate_left; (intro hb); rotate_right)
        | (apply awp_condN; exact rfl; (intro hb); rotate_left; (intro hb); rotate_right)
        | (apply awp_condT; exact rfl)
        | (apply awp_condF; exact rfl)
        | (apply awp_cond; exact rfl; (intro hb); rotate_left; (intro hb); rotate_right)
        | refine awp_block ?_
        | refine awp_skip ?_
        | refine awp_ret ?_
        | refine awp_exit ?_
        | refine awp_label ?_
        | refine awp_goto ?_
        | refine awp_draw (by kernel_rfl) (by kernel_rfl) ?_
        | refine en_r ?_
        | refine en_e ?_
        | refine eb_n ?_
        | refine eb_r ?_
        | refine eb_e ?_
        | refine eb_o rfl ?_
        | refine en_g ?_
        | refine eb_g ?_
        | refine ej_n ?_
        | refine ej_r ?_
        | refine ej_e ?_
        | refine ej_g ?_
        | refine rpost_ret ?_
        | (apply res1; exact rfl)
        | (apply res1n; exact rfl)
        | (apply res1b; exact rfl; exact rfl; (first | exact rfl | (simp; done)))
        | (apply res2; exact rfl; exact rfl)
        | (apply res2n; exact rfl; exact rfl)
        | (apply res2b; exact rfl; exact rfl; (first | exact rfl | (simp; done)); exact rfl)
        | exact CoL_nil
        | refine CoL_d rfl ?_
        | refine CoL_b rfl rfl rfl ?_
        | refine CoL_n rfl ?_
        | refine CoL_v rfl ?_
      all_goals rfl
    have hg : PCall Try.prog 22 [nodes L] (nodes (⟨44, [], 0, 1⟩ :: L)) := by
      have := Group_ok L hL
      have e : makeF ⟨44, [], 0, 0⟩ [L] = ⟨44, [], 0, 1⟩ :: L := by simp [makeF]
      rwa [e] at this
    have hLg : (⟨44, [], 0, 1⟩ :: L : List Nd).length ≤ 2000000 := by simp only [List.length_cons]; omega
    have htg : ∀ n ∈ (⟨44, [], 0, 1⟩ :: L : List Nd), n.text.length ≤ 1000 := by
      intro n hm
      rcases List.mem_cons.1 hm with rfl | hm
      · exact Nat.zero_le _
      · exact ht n hm
    have hcg := grp_chk (L := L) (by omega)
    cases hc : chkF L with
    | false =>
      refine pcall_of Try.func6 rfl Try.ntmps6 Try.results6 rfl ?_
      intro wb St0
      repeat' first
        | refine en_n ?_
        | refine awp_seq ?_
        | refine awp_region ?_
        | refine alex_nil ?_
        | refine w0 ?_
        | (apply Y_strT; exact rfl; exact rfl; exact rfl)
        | (apply Y_neqs; exact rfl; exact rfl)
        | (apply Y_eqlT; exact rfl; exact rfl; exact rfl)
        | (apply kU (hd := rfl); exact rfl; exact rfl)
        | (apply k1u (hd := rfl); exact rfl; exact rfl)
        | (apply k0u (hd := rfl); exact rfl; exact rfl)
        | (apply Y_lssT; exact rfl; exact rfl; first
        | assumption
        | omega)
        | (apply Y_lssF; exact rfl; exact rfl; first
        | assumption
        | omega)
        | (apply Y_leqT; exact rfl; exact rfl; first
        | assumption
        | omega)
        | (apply Y_leqF; exact rfl; exact rfl; first
        | assumption
        | omega)
        | (apply Y_gtrT; exact rfl; exact rfl; first
        | assumption
        | omega)
        | (apply Y_gtrF; exact rfl; exact rfl; first
        | assumption
        | omega)
        | (apply Y_geqT; exact rfl; exact rfl; first
        | assumption
        | omega)
        | (apply Y_geqF; exact rfl; exact rfl; first
        | assumption
        | omega)
        | (apply Y_eqlT; exact rfl; exact rfl; first
        | assumption
        | omega)
        | (apply Y_eqlF; exact rfl; exact rfl; first
        | assumption
        | omega)
        | (apply Y_neqT; exact rfl; exact rfl; first
        | assumption
        | omega)
        | (apply Y_neqF; exact rfl; exact rfl; first
        | assumption
        | omega)
        | (refine Y_call hb_awake awake_ok CoL_nil)
        | (apply Y_call (hb := hb_long) (hc := hlo))
        | (apply Y_call (hb := hb_own) (hc := how))
        | (apply Y_call (hb := hb_Group) (hc := hg))
        | (apply Y_call (hb := hb_Layout) (hc := Layout_no hLg htg w (hcg.trans hc)))
        | (apply Y_call (hb := hb_Flat) (hc := Flat_no hL ht hc))
        | (apply aJ (hd := rfl); (first | exact Co_dd rfl | exact Co_bb rfl rfl rfl | exact Co_nn rfl); exact rfl; exact (by first | exact es_nodes | exact es_ints | exact es_nodess); assumption; omega; exact fun _ => rfl)
        | (apply aI (hd := rfl); (first | exact Co_dd rfl | exact Co_bb rfl rfl rfl | exact Co_nn rfl); exact rfl; exact (by first | exact es_nodes | exact es_ints | exact es_nodess); exact fun _ => rfl; rotate_left; intro v hv; rotate_right)
        | (apply aApp (hd := rfl) (hro := rfl); exact rfl; exact rfl; (first | exact Co_dd rfl | exact Co_bb rfl rfl rfl | exact Co_nn rfl); (first | exact rfl | (simp; done)); exact rfl; exact (by first | exact ety_nodes | exact ety_ints | exact ety_nodess); exact (by first | exact es_nodes | exact es_ints | exact es_nodess); exact (by first | exact zl_node | exact zl_int | exact zl_nodes); exact (by first | exact by_nodes | exact by_ints | exact by_nodess); (first | exact sz_map (fun _ => rfl) | exact sz_lit rfl))
        | (apply aBox (hd := rfl) (hro := rfl); exact rfl; exact rfl)
        | (apply aAlloc (hd := rfl) (hro := rfl); exact (by first | exact zo_node | exact zo_int))
        | apply ay (hd := rfl)
        | (apply Y_move_d; exact rfl)
        | (apply Y_assign_d; exact rfl)
        | (apply Y_field_r; exact rfl; exact (by first | exact fo_0 | exact fo_1 | exact fo_2 | exact fo_3))
        | (apply Y_load_r1; exact rfl; exact (by first | exact tc_int | exact tc_nodes | exact tc_node | exact tc_ints | exact tc_kind | exact tc_i64 | exact tc_str | exact tc_bool))
        | (apply Y_load_r; exact rfl; exact (by first | exact tc_int | exact tc_nodes | exact tc_node | exact tc_ints | exact tc_kind | exact tc_i64 | exact tc_str | exact tc_bool); exact rfl)
        | (apply Y_len_m; exact rfl; exact (by first | exact et_nodes | exact et_ints | exact et_nodess))
        | (apply Y_len_d; exact rfl; exact (by first | exact et_nodes | exact et_ints | exact et_nodess))
        | (apply Y_lss; exact rfl; exact rfl)
        | (apply Y_leq; exact rfl; exact rfl)
        | (apply Y_gtr; exact rfl; exact rfl)
        | (apply Y_geq; exact rfl; exact rfl)
        | (apply Y_eql; exact rfl; exact rfl)
        | (apply Y_neq; exact rfl; exact rfl)
        | (apply Y_add; exact rfl; exact rfl)
        | (apply Y_sub; exact rfl; exact rfl)
        | (apply Y_mul; exact rfl; exact rfl)
        | (apply Y_not; exact rfl)
        | (apply Y_pick_t; exact rfl; exact rfl)
        | (apply Y_pick_f; exact rfl; exact rfl)
        | (apply Y_extract; exact rfl; exact rfl)
        | (apply Y_max; exact rfl; exact rfl)
        | (apply Y_move_nil; exact rfl)
        | (apply Y_assign_nil; exact rfl)
        | (apply Y_move_buf; exact rfl)
        | (apply Y_assign_buf; exact rfl)
        | (apply Y_len_buf; exact rfl; exact (by first | exact et_nodes | exact et_ints | exact et_nodess))
        | (apply Y_len_nil; exact rfl; exact (by first | exact et_nodes | exact et_ints | exact et_nodess))
        | (apply Y_move_ptr; exact rfl)
        | (apply Y_assign_ptr; exact rfl)
        | (apply Y_move_clo; exact rfl)
        | (apply Y_assign_clo; exact rfl)
        | (apply Y_field_p; exact rfl; exact (by first | exact fo_0 | exact fo_1 | exact fo_2 | exact fo_3))
        | (apply Y_load_p; exact rfl; exact (by first | exact tc_int | exact tc_nodes | exact tc_node | exact tc_ints | exact tc_kind | exact tc_i64 | exact tc_str | exact tc_bool); exact rfl; exact rfl)
        | (apply Y_load_pa; exact rfl; exact (by first | exact tc_int | exact tc_nodes | exact tc_node | exact tc_ints | exact tc_kind | exact tc_i64 | exact tc_str | exact tc_bool); exact rfl; exact rfl; exact rfl)
        | (apply Y_sl; (first | exact Co_dd rfl | exact Co_bb rfl rfl rfl | exact Co_nn rfl); exact (by first | exact es_nodes | exact es_ints | exact es_nodess); exact rfl; exact rfl; exact fun _ => rfl)
        | (apply Y_sl_l; (first | exact Co_dd rfl | exact Co_bb rfl rfl rfl | exact Co_nn rfl); exact (by first | exact es_nodes | exact es_ints | exact es_nodess); exact rfl; exact fun _ => rfl)
        | (apply Y_sl_h; (first | exact Co_dd rfl | exact Co_bb rfl rfl rfl | exact Co_nn rfl); exact (by first | exact es_nodes | exact es_ints | exact es_nodess); exact rfl; exact fun _ => rfl)
        | (apply Y_lit0; exact (by first | exact ety_nodes | exact ety_ints | exact ety_nodess); exact (by first | exact es_nodes | exact es_ints | exact es_nodess); exact (by first | exact zs_node | exact zs_int | exact zs_nodes); exact rfl)
        | (apply Y_lit1; exact (by first | exact ety_nodes | exact ety_ints | exact ety_nodess); exact (by first | exact es_nodes | exact es_ints | exact es_nodess); exact (by first | exact zs_node | exact zs_int | exact zs_nodes); exact rfl; exact rfl; (first | exact CoL_d rfl CoL_nil | exact CoL_b rfl rfl rfl CoL_nil | exact CoL_n rfl CoL_nil); exact rfl)
        | (apply Y_lit2; exact (by first | exact ety_nodes | exact ety_ints | exact ety_nodess); exact (by first | exact es_nodes | exact es_ints | exact es_nodess); exact (by first | exact zs_node | exact zs_int | exact zs_nodes); exact rfl; exact rfl; (first | exact CoL_d rfl (CoL_d rfl CoL_nil) | exact CoL_b rfl rfl rfl (CoL_b rfl rfl rfl CoL_nil)); exact rfl)
        | (apply Y_lit3; exact (by first | exact ety_nodes | exact ety_ints | exact ety_nodess); exact (by first | exact es_nodes | exact es_ints | exact es_nodess); exact (by first | exact zs_node | exact zs_int | exact zs_nodes); exact rfl; exact rfl; (exact CoL_d rfl (CoL_d rfl (CoL_d rfl CoL_nil))); exact rfl)
        | (apply Y_lit4; exact (by first | exact ety_nodes | exact ety_ints | exact ety_nodess); exact (by first | exact es_nodes | exact es_ints | exact es_nodess); exact (by first | exact zs_node | exact zs_int | exact zs_nodes); exact rfl; exact rfl; (exact CoL_d rfl (CoL_d rfl (CoL_d rfl (CoL_d rfl CoL_nil)))); exact rfl)
        | (apply Y_mkf; exact rfl)
        | (apply w1; exact rfl; exact rfl)
        | (apply k1 (hd := rfl); exact rfl; exact rfl)
        | (apply k0 (hd := rfl); exact rfl; exact rfl)
        | (apply gD; exact rfl; exact rfl; (intro hb); rotate_left; (intro hb); rotate_right)
        | (apply gN; exact rfl; exact rfl; (intro hb); rotate_left; (intro hb); rotate_right)
        | (apply g1; exact rfl; exact rfl; (intro hb); rotate_left; (intro hb); rotate_right)
        | (refine w0' ?_)
        | (apply aStore; exact rfl; exact rfl; exact rfl; exact (by first | exact tc_int | exact tc_nodes | exact tc_node | exact tc_ints | exact tc_kind | exact tc_i64 | exact tc_str | exact tc_bool); exact rfl; exact rfl; exact rfl; exact rfl)
        | (apply awp_condD; exact rfl; (intro hb); rotate_left; (intro hb); rotate_right)
        | (apply awp_condN; exact rfl; (intro hb); rotate_left; (intro hb); rotate_right)
        | (apply awp_condT; exact rfl)
        | (apply awp_condF; exact rfl)
        | (apply awp_cond; exact rfl; (intro hb); rotate_left; (intro hb); rotate_right)
        | refine awp_block ?_
        | refine awp_skip ?_
        | refine awp_ret ?_
        | refine awp_exit ?_
        | refine awp_label ?_
        | refine awp_goto ?_
        | refine awp_draw (by kernel_rfl) (by kernel_rfl) ?_
        | refine en_r ?_
        | refine en_e ?_
        | refine eb_n ?_
        | refine eb_r ?_
        | refine eb_e ?_
        | refine eb_o rfl ?_
        | refine en_g ?_
        | refine eb_g ?_
        | refine ej_n ?_
        | refine ej_r ?_
        | refine ej_e ?_
        | refine ej_g ?_
        | refine rpost_ret ?_
        | (apply res1; exact rfl)
        | (apply res1n; exact rfl)
        | (apply res1b; exact rfl; exact rfl; (first | exact rfl | (simp; done)))
        | (apply res2; exact rfl; exact rfl)
        | (apply res2n; exact rfl; exact rfl)
        | (apply res2b; exact rfl; exact rfl; (first | exact rfl | (simp; done)); exact rfl)
        | exact CoL_nil
        | refine CoL_d rfl ?_
        | refine CoL_b rfl rfl rfl ?_
        | refine CoL_n rfl ?_
        | refine CoL_v rfl ?_
      rfl
    | true =>
      have hla := Layout_yes hLg htg w (hcg.trans hc) (by omega) (by omega)
      rw [grp_lay hc ht] at hla
      by_cases hf : (flN L L.length 0).length ≤ w.toNat
      · rw [if_pos hf] at hla
        refine pcall_of Try.func6 rfl Try.ntmps6 Try.results6 rfl ?_
        intro wb St0
        repeat' first
          | refine en_n ?_
          | refine awp_seq ?_
          | refine awp_region ?_
          | refine alex_nil ?_
          | refine w0 ?_
          | (apply Y_strT; exact rfl; exact rfl; exact rfl)
          | (apply Y_neqs; exact rfl; exact rfl)
          | (apply Y_eqlT; exact rfl; exact rfl; exact rfl)
          | (apply kU (hd := rfl); exact rfl; exact rfl)
          | (apply k1u (hd := rfl); exact rfl; exact rfl)
          | (apply k0u (hd := rfl); exact rfl; exact rfl)
          | (apply Y_lssT; exact rfl; exact rfl; first
          | assumption
          | omega)
          | (apply Y_lssF; exact rfl; exact rfl; first
          | assumption
          | omega)
          | (apply Y_leqT; exact rfl; exact rfl; first
          | assumption
          | omega)
          | (apply Y_leqF; exact rfl; exact rfl; first
          | assumption
          | omega)
          | (apply Y_gtrT; exact rfl; exact rfl; first
          | assumption
          | omega)
          | (apply Y_gtrF; exact rfl; exact rfl; first
          | assumption
          | omega)
          | (apply Y_geqT; exact rfl; exact rfl; first
          | assumption
          | omega)
          | (apply Y_geqF; exact rfl; exact rfl; first
          | assumption
          | omega)
          | (apply Y_eqlT; exact rfl; exact rfl; first
          | assumption
          | omega)
          | (apply Y_eqlF; exact rfl; exact rfl; first
          | assumption
          | omega)
          | (apply Y_neqT; exact rfl; exact rfl; first
          | assumption
          | omega)
          | (apply Y_neqF; exact rfl; exact rfl; first
          | assumption
          | omega)
          | (refine Y_call hb_awake awake_ok CoL_nil)
          | (apply Y_call (hb := hb_long) (hc := hlo))
          | (apply Y_len_l; exact rfl; exact ustr)
          | (apply Y_eqs; exact rfl; exact rfl)
          | (apply Y_neqs; exact rfl; exact rfl)
          | (apply Y_cat_l; exact rfl; exact rfl; omega)
          | (apply Y_idx_l; exact rfl; exact rfl; exact ustr; (first
          | assumption
          | omega))
          | (apply Y_sub_l; exact rfl; exact rfl; exact rfl; exact ustr; (first
          | assumption
          | omega))
          | (apply Y_call (hb := hb_own) (hc := how))
          | (apply Y_call (hb := hb_Group) (hc := hg))
          | (apply Y_call (hb := hb_Layout) (hc := hla))
          | (apply Y_call (hb := hb_Flat) (hc := Flat_yes hL ht hc))
          | (apply aJ (hd := rfl); (first | exact Co_dd rfl | exact Co_bb rfl rfl rfl | exact Co_nn rfl); exact rfl; exact (by first | exact es_nodes | exact es_ints | exact es_nodess); assumption; omega; exact fun _ => rfl)
          | (apply aI (hd := rfl); (first | exact Co_dd rfl | exact Co_bb rfl rfl rfl | exact Co_nn rfl); exact rfl; exact (by first | exact es_nodes | exact es_ints | exact es_nodess); exact fun _ => rfl; rotate_left; intro v hv; rotate_right)
          | (apply aApp (hd := rfl) (hro := rfl); exact rfl; exact rfl; (first | exact Co_dd rfl | exact Co_bb rfl rfl rfl | exact Co_nn rfl); (first | exact rfl | (simp; done)); exact rfl; exact (by first | exact ety_nodes | exact ety_ints | exact ety_nodess); exact (by first | exact es_nodes | exact es_ints | exact es_nodess); exact (by first | exact zl_node | exact zl_int | exact zl_nodes); exact (by first | exact by_nodes | exact by_ints | exact by_nodess); (first | exact sz_map (fun _ => rfl) | exact sz_lit rfl))
          | (apply aBox (hd := rfl) (hro := rfl); exact rfl; exact rfl)
          | (apply aAlloc (hd := rfl) (hro := rfl); exact (by first | exact zo_node | exact zo_int))
          | apply ay (hd := rfl)
          | (apply Y_move_d; exact rfl)
          | (apply Y_assign_d; exact rfl)
          | (apply Y_field_r; exact rfl; exact (by first | exact fo_0 | exact fo_1 | exact fo_2 | exact fo_3))
          | (apply Y_load_r1; exact rfl; exact (by first | exact tc_int | exact tc_nodes | exact tc_node | exact tc_ints | exact tc_kind | exact tc_i64 | exact tc_str | exact tc_bool))
          | (apply Y_load_r; exact rfl; exact (by first | exact tc_int | exact tc_nodes | exact tc_node | exact tc_ints | exact tc_kind | exact tc_i64 | exact tc_str | exact tc_bool); exact rfl)
          | (apply Y_len_m; exact rfl; exact (by first | exact et_nodes | exact et_ints | exact et_nodess))
          | (apply Y_len_d; exact rfl; exact (by first | exact et_nodes | exact et_ints | exact et_nodess))
          | (apply Y_lss; exact rfl; exact rfl)
          | (apply Y_leq; exact rfl; exact rfl)
          | (apply Y_gtr; exact rfl; exact rfl)
          | (apply Y_geq; exact rfl; exact rfl)
          | (apply Y_eql; exact rfl; exact rfl)
          | (apply Y_neq; exact rfl; exact rfl)
          | (apply Y_add; exact rfl; exact rfl)
          | (apply Y_sub; exact rfl; exact rfl)
          | (apply Y_mul; exact rfl; exact rfl)
          | (apply Y_not; exact rfl)
          | (apply Y_pick_t; exact rfl; exact rfl)
          | (apply Y_pick_f; exact rfl; exact rfl)
          | (apply Y_extract; exact rfl; exact rfl)
          | (apply Y_max; exact rfl; exact rfl)
          | (apply Y_move_nil; exact rfl)
          | (apply Y_assign_nil; exact rfl)
          | (apply Y_move_buf; exact rfl)
          | (apply Y_assign_buf; exact rfl)
          | (apply Y_len_buf; exact rfl; exact (by first | exact et_nodes | exact et_ints | exact et_nodess))
          | (apply Y_len_nil; exact rfl; exact (by first | exact et_nodes | exact et_ints | exact et_nodess))
          | (apply Y_move_ptr; exact rfl)
          | (apply Y_assign_ptr; exact rfl)
          | (apply Y_move_clo; exact rfl)
          | (apply Y_assign_clo; exact rfl)
          | (apply Y_field_p; exact rfl; exact (by first | exact fo_0 | exact fo_1 | exact fo_2 | exact fo_3))
          | (apply Y_load_p; exact rfl; exact (by first | exact tc_int | exact tc_nodes | exact tc_node | exact tc_ints | exact tc_kind | exact tc_i64 | exact tc_str | exact tc_bool); exact rfl; exact rfl)
          | (apply Y_load_pa; exact rfl; exact (by first | exact tc_int | exact tc_nodes | exact tc_node | exact tc_ints | exact tc_kind | exact tc_i64 | exact tc_str | exact tc_bool); exact rfl; exact rfl; exact rfl)
          | (apply Y_sl; (first | exact Co_dd rfl | exact Co_bb rfl rfl rfl | exact Co_nn rfl); exact (by first | exact es_nodes | exact es_ints | exact es_nodess); exact rfl; exact rfl; exact fun _ => rfl)
          | (apply Y_sl_l; (first | exact Co_dd rfl | exact Co_bb rfl rfl rfl | exact Co_nn rfl); exact (by first | exact es_nodes | exact es_ints | exact es_nodess); exact rfl; exact fun _ => rfl)
          | (apply Y_sl_h; (first | exact Co_dd rfl | exact Co_bb rfl rfl rfl | exact Co_nn rfl); exact (by first | exact es_nodes | exact es_ints | exact es_nodess); exact rfl; exact fun _ => rfl)
          | (apply Y_lit0; exact (by first | exact ety_nodes | exact ety_ints | exact ety_nodess); exact (by first | exact es_nodes | exact es_ints | exact es_nodess); exact (by first | exact zs_node | exact zs_int | exact zs_nodes); exact rfl)
          | (apply Y_lit1; exact (by first | exact ety_nodes | exact ety_ints | exact ety_nodess); exact (by first | exact es_nodes | exact es_ints | exact es_nodess); exact (by first | exact zs_node | exact zs_int | exact zs_nodes); exact rfl; exact rfl; (first | exact CoL_d rfl CoL_nil | exact CoL_b rfl rfl rfl CoL_nil | exact CoL_n rfl CoL_nil); exact rfl)
          | (apply Y_lit2; exact (by first | exact ety_nodes | exact ety_ints | exact ety_nodess); exact (by first | exact es_nodes | exact es_ints | exact es_nodess); exact (by first | exact zs_node | exact zs_int | exact zs_nodes); exact rfl; exact rfl; (first | exact CoL_d rfl (CoL_d rfl CoL_nil) | exact CoL_b rfl rfl rfl (CoL_b rfl rfl rfl CoL_nil)); exact rfl)
          | (apply Y_lit3; exact (by first | exact ety_nodes | exact ety_ints | exact ety_nodess); exact (by first | exact es_nodes | exact es_ints | exact es_nodess); exact (by first | exact zs_node | exact zs_int | exact zs_nodes); exact rfl; exact rfl; (exact CoL_d rfl (CoL_d rfl (CoL_d rfl CoL_nil))); exact rfl)
          | (apply Y_lit4; exact (by first | exact ety_nodes | exact ety_ints | exact ety_nodess); exact (by first | exact es_nodes | exact es_ints | exact es_nodess); exact (by first | exact zs_node | exact zs_int | exact zs_nodes); exact rfl; exact rfl; (exact CoL_d rfl (CoL_d rfl (CoL_d rfl (CoL_d rfl CoL_nil)))); exact rfl)
          | (apply Y_mkf; exact rfl)
          | (apply w1; exact rfl; exact rfl)
          | (apply k1 (hd := rfl); exact rfl; exact rfl)
          | (apply k0 (hd := rfl); exact rfl; exact rfl)
          | (apply gD; exact rfl; exact rfl; (intro hb); rotate_left; (intro hb); rotate_right)
          | (apply gN; exact rfl; exact rfl; (intro hb); rotate_left; (intro hb); rotate_right)
          | (apply g1; exact rfl; exact rfl; (intro hb); rotate_left; (intro hb); rotate_right)
          | (refine w0' ?_)
          | (apply aStore; exact rfl; exact rfl; exact rfl; exact (by first | exact tc_int | exact tc_nodes | exact tc_node | exact tc_ints | exact tc_kind | exact tc_i64 | exact tc_str | exact tc_bool); exact rfl; exact rfl; exact rfl; exact rfl)
          | (apply awp_condD; exact rfl; (intro hb); rotate_left; (intro hb); rotate_right)
          | (apply awp_condN; exact rfl; (intro hb); rotate_left; (intro hb); rotate_right)
          | (apply awp_condT; exact rfl)
          | (apply awp_condF; exact rfl)
          | (apply awp_cond; exact rfl; (intro hb); rotate_left; (intro hb); rotate_right)
          | refine awp_block ?_
          | refine awp_skip ?_
          | refine awp_ret ?_
          | refine awp_exit ?_
          | refine awp_label ?_
          | refine awp_goto ?_
          | refine awp_draw (by kernel_rfl) (by kernel_rfl) ?_
          | refine en_r ?_
          | refine en_e ?_
          | refine eb_n ?_
          | refine eb_r ?_
          | refine eb_e ?_
          | refine eb_o rfl ?_
          | refine en_g ?_
          | refine eb_g ?_
          | refine ej_n ?_
          | refine ej_r ?_
          | refine ej_e ?_
          | refine ej_g ?_
          | refine rpost_ret ?_
          | (apply res1; exact rfl)
          | (apply res1n; exact rfl)
          | (apply res1b; exact rfl; exact rfl; (first | exact rfl | (simp; done)))
          | (apply res2; exact rfl; exact rfl)
          | (apply res2n; exact rfl; exact rfl)
          | (apply res2b; exact rfl; exact rfl; (first | exact rfl | (simp; done)); exact rfl)
          | exact CoL_nil
          | refine CoL_d rfl ?_
          | refine CoL_b rfl rfl rfl ?_
          | refine CoL_n rfl ?_
          | refine CoL_v rfl ?_
        rfl
      · rw [if_neg hf] at hla
        have hlb := Layout_yes hL ht w hc (by omega) (by omega)
        refine pcall_of Try.func6 rfl Try.ntmps6 Try.results6 rfl ?_
        intro wb St0
        repeat' first
          | refine en_n ?_
          | refine awp_seq ?_
          | refine awp_region ?_
          | refine alex_nil ?_
          | refine w0 ?_
          | (apply Y_strT; exact rfl; exact rfl; exact rfl)
          | (apply Y_neqs; exact rfl; exact rfl)
          | (apply Y_eqlT; exact rfl; exact rfl; exact rfl)
          | (apply kU (hd := rfl); exact rfl; exact rfl)
          | (apply k1u (hd := rfl); exact rfl; exact rfl)
          | (apply k0u (hd := rfl); exact rfl; exact rfl)
          | (apply Y_lssT; exact rfl; exact rfl; first
          | assumption
          | omega)
          | (apply Y_lssF; exact rfl; exact rfl; first
          | assumption
          | omega)
          | (apply Y_leqT; exact rfl; exact rfl; first
          | assumption
          | omega)
          | (apply Y_leqF; exact rfl; exact rfl; first
          | assumption
          | omega)
          | (apply Y_gtrT; exact rfl; exact rfl; first
          | assumption
          | omega)
          | (apply Y_gtrF; exact rfl; exact rfl; first
          | assumption
          | omega)
          | (apply Y_geqT; exact rfl; exact rfl; first
          | assumption
          | omega)
          | (apply Y_geqF; exact rfl; exact rfl; first
          | assumption
          | omega)
          | (apply Y_eqlT; exact rfl; exact rfl; first
          | assumption
          | omega)
          | (apply Y_eqlF; exact rfl; exact rfl; first
          | assumption
          | omega)
          | (apply Y_neqT; exact rfl; exact rfl; first
          | assumption
          | omega)
          | (apply Y_neqF; exact rfl; exact rfl; first
          | assumption
          | omega)
          | (refine Y_call hb_awake awake_ok CoL_nil)
          | (apply Y_call (hb := hb_long) (hc := hlo))
          | (apply Y_len_l; exact rfl; exact ustr)
          | (apply Y_eqs; exact rfl; exact rfl)
          | (apply Y_neqs; exact rfl; exact rfl)
          | (apply Y_cat_l; exact rfl; exact rfl; omega)
          | (apply Y_idx_l; exact rfl; exact rfl; exact ustr; (first
          | assumption
          | omega))
          | (apply Y_sub_l; exact rfl; exact rfl; exact rfl; exact ustr; (first
          | assumption
          | omega))
          | (apply Y_call (hb := hb_own) (hc := how))
          | (apply Y_call (hb := hb_Group) (hc := hg))
          | (refine Y_call hb_Layout hla (CoL_d rfl (CoL_d rfl CoL_nil)))
          | (refine Y_call hb_Layout hlb (CoL_d rfl (CoL_d rfl CoL_nil)))
          | (apply Y_call (hb := hb_Flat) (hc := Flat_yes hL ht hc))
          | (apply aJ (hd := rfl); (first | exact Co_dd rfl | exact Co_bb rfl rfl rfl | exact Co_nn rfl); exact rfl; exact (by first | exact es_nodes | exact es_ints | exact es_nodess); assumption; omega; exact fun _ => rfl)
          | (apply aI (hd := rfl); (first | exact Co_dd rfl | exact Co_bb rfl rfl rfl | exact Co_nn rfl); exact rfl; exact (by first | exact es_nodes | exact es_ints | exact es_nodess); exact fun _ => rfl; rotate_left; intro v hv; rotate_right)
          | (apply aApp (hd := rfl) (hro := rfl); exact rfl; exact rfl; (first | exact Co_dd rfl | exact Co_bb rfl rfl rfl | exact Co_nn rfl); (first | exact rfl | (simp; done)); exact rfl; exact (by first | exact ety_nodes | exact ety_ints | exact ety_nodess); exact (by first | exact es_nodes | exact es_ints | exact es_nodess); exact (by first | exact zl_node | exact zl_int | exact zl_nodes); exact (by first | exact by_nodes | exact by_ints | exact by_nodess); (first | exact sz_map (fun _ => rfl) | exact sz_lit rfl))
          | (apply aBox (hd := rfl) (hro := rfl); exact rfl; exact rfl)
          | (apply aAlloc (hd := rfl) (hro := rfl); exact (by first | exact zo_node | exact zo_int))
          | apply ay (hd := rfl)
          | (apply Y_move_d; exact rfl)
          | (apply Y_assign_d; exact rfl)
          | (apply Y_field_r; exact rfl; exact (by first | exact fo_0 | exact fo_1 | exact fo_2 | exact fo_3))
          | (apply Y_load_r1; exact rfl; exact (by first | exact tc_int | exact tc_nodes | exact tc_node | exact tc_ints | exact tc_kind | exact tc_i64 | exact tc_str | exact tc_bool))
          | (apply Y_load_r; exact rfl; exact (by first | exact tc_int | exact tc_nodes | exact tc_node | exact tc_ints | exact tc_kind | exact tc_i64 | exact tc_str | exact tc_bool); exact rfl)
          | (apply Y_len_m; exact rfl; exact (by first | exact et_nodes | exact et_ints | exact et_nodess))
          | (apply Y_len_d; exact rfl; exact (by first | exact et_nodes | exact et_ints | exact et_nodess))
          | (apply Y_lss; exact rfl; exact rfl)
          | (apply Y_leq; exact rfl; exact rfl)
          | (apply Y_gtr; exact rfl; exact rfl)
          | (apply Y_geq; exact rfl; exact rfl)
          | (apply Y_eql; exact rfl; exact rfl)
          | (apply Y_neq; exact rfl; exact rfl)
          | (apply Y_add; exact rfl; exact rfl)
          | (apply Y_sub; exact rfl; exact rfl)
          | (apply Y_mul; exact rfl; exact rfl)
          | (apply Y_not; exact rfl)
          | (apply Y_pick_t; exact rfl; exact rfl)
          | (apply Y_pick_f; exact rfl; exact rfl)
          | (apply Y_extract; exact rfl; exact rfl)
          | (apply Y_max; exact rfl; exact rfl)
          | (apply Y_move_nil; exact rfl)
          | (apply Y_assign_nil; exact rfl)
          | (apply Y_move_buf; exact rfl)
          | (apply Y_assign_buf; exact rfl)
          | (apply Y_len_buf; exact rfl; exact (by first | exact et_nodes | exact et_ints | exact et_nodess))
          | (apply Y_len_nil; exact rfl; exact (by first | exact et_nodes | exact et_ints | exact et_nodess))
          | (apply Y_move_ptr; exact rfl)
          | (apply Y_assign_ptr; exact rfl)
          | (apply Y_move_clo; exact rfl)
          | (apply Y_assign_clo; exact rfl)
          | (apply Y_field_p; exact rfl; exact (by first | exact fo_0 | exact fo_1 | exact fo_2 | exact fo_3))
          | (apply Y_load_p; exact rfl; exact (by first | exact tc_int | exact tc_nodes | exact tc_node | exact tc_ints | exact tc_kind | exact tc_i64 | exact tc_str | exact tc_bool); exact rfl; exact rfl)
          | (apply Y_load_pa; exact rfl; exact (by first | exact tc_int | exact tc_nodes | exact tc_node | exact tc_ints | exact tc_kind | exact tc_i64 | exact tc_str | exact tc_bool); exact rfl; exact rfl; exact rfl)
          | (apply Y_sl; (first | exact Co_dd rfl | exact Co_bb rfl rfl rfl | exact Co_nn rfl); exact (by first | exact es_nodes | exact es_ints | exact es_nodess); exact rfl; exact rfl; exact fun _ => rfl)
          | (apply Y_sl_l; (first | exact Co_dd rfl | exact Co_bb rfl rfl rfl | exact Co_nn rfl); exact (by first | exact es_nodes | exact es_ints | exact es_nodess); exact rfl; exact fun _ => rfl)
          | (apply Y_sl_h; (first | exact Co_dd rfl | exact Co_bb rfl rfl rfl | exact Co_nn rfl); exact (by first | exact es_nodes | exact es_ints | exact es_nodess); exact rfl; exact fun _ => rfl)
          | (apply Y_lit0; exact (by first | exact ety_nodes | exact ety_ints | exact ety_nodess); exact (by first | exact es_nodes | exact es_ints | exact es_nodess); exact (by first | exact zs_node | exact zs_int | exact zs_nodes); exact rfl)
          | (apply Y_lit1; exact (by first | exact ety_nodes | exact ety_ints | exact ety_nodess); exact (by first | exact es_nodes | exact es_ints | exact es_nodess); exact (by first | exact zs_node | exact zs_int | exact zs_nodes); exact rfl; exact rfl; (first | exact CoL_d rfl CoL_nil | exact CoL_b rfl rfl rfl CoL_nil | exact CoL_n rfl CoL_nil); exact rfl)
          | (apply Y_lit2; exact (by first | exact ety_nodes | exact ety_ints | exact ety_nodess); exact (by first | exact es_nodes | exact es_ints | exact es_nodess); exact (by first | exact zs_node | exact zs_int | exact zs_nodes); exact rfl; exact rfl; (first | exact CoL_d rfl (CoL_d rfl CoL_nil) | exact CoL_b rfl rfl rfl (CoL_b rfl rfl rfl CoL_nil)); exact rfl)
          | (apply Y_lit3; exact (by first | exact ety_nodes | exact ety_ints | exact ety_nodess); exact (by first | exact es_nodes | exact es_ints | exact es_nodess); exact (by first | exact zs_node | exact zs_int | exact zs_nodes); exact rfl; exact rfl; (exact CoL_d rfl (CoL_d rfl (CoL_d rfl CoL_nil))); exact rfl)
          | (apply Y_lit4; exact (by first | exact ety_nodes | exact ety_ints | exact ety_nodess); exact (by first | exact es_nodes | exact es_ints | exact es_nodess); exact (by first | exact zs_node | exact zs_int | exact zs_nodes); exact rfl; exact rfl; (exact CoL_d rfl (CoL_d rfl (CoL_d rfl (CoL_d rfl CoL_nil)))); exact rfl)
          | (apply Y_mkf; exact rfl)
          | (apply w1; exact rfl; exact rfl)
          | (apply k1 (hd := rfl); exact rfl; exact rfl)
          | (apply k0 (hd := rfl); exact rfl; exact rfl)
          | (apply gD; exact rfl; exact rfl; (intro hb); rotate_left; (intro hb); rotate_right)
          | (apply gN; exact rfl; exact rfl; (intro hb); rotate_left; (intro hb); rotate_right)
          | (apply g1; exact rfl; exact rfl; (intro hb); rotate_left; (intro hb); rotate_right)
          | (refine w0' ?_)
          | (apply aStore; exact rfl; exact rfl; exact rfl; exact (by first | exact tc_int | exact tc_nodes | exact tc_node | exact tc_ints | exact tc_kind | exact tc_i64 | exact tc_str | exact tc_bool); exact rfl; exact rfl; exact rfl; exact rfl)
          | (apply awp_condD; exact rfl; (intro hb); rotate_left; (intro hb); rotate_right)
          | (apply awp_condN; exact rfl; (intro hb); rotate_left; (intro hb); rotate_right)
          | (apply awp_condT; exact rfl)
          | (apply awp_condF; exact rfl)
          | (apply awp_cond; exact rfl; (intro hb); rotate_left; (intro hb); rotate_right)
          | refine awp_block ?_
          | refine awp_skip ?_
          | refine awp_ret ?_
          | refine awp_exit ?_
          | refine awp_label ?_
          | refine awp_goto ?_
          | refine awp_draw (by kernel_rfl) (by kernel_rfl) ?_
          | refine en_r ?_
          | refine en_e ?_
          | refine eb_n ?_
          | refine eb_r ?_
          | refine eb_e ?_
          | refine eb_o rfl ?_
          | refine en_g ?_
          | refine eb_g ?_
          | refine ej_n ?_
          | refine ej_r ?_
          | refine ej_e ?_
          | refine ej_g ?_
          | refine rpost_ret ?_
          | (apply res1; exact rfl)
          | (apply res1n; exact rfl)
          | (apply res1b; exact rfl; exact rfl; (first | exact rfl | (simp; done)))
          | (apply res2; exact rfl; exact rfl)
          | (apply res2n; exact rfl; exact rfl)
          | (apply res2b; exact rfl; exact rfl; (first | exact rfl | (simp; done)); exact rfl)
          | exact CoL_nil
          | refine CoL_d rfl ?_
          | refine CoL_b rfl rfl rfl ?_
          | refine CoL_n rfl ?_
          | refine CoL_v rfl ?_
        rfl
end Go.Proofs.Ytcjakkbanlgafaa
