/- The layout statements: the law LayoutMakes, where its documents are not too long. -/
import Derived.Test.YtcjakkbanlgafaaME
namespace Go.Proofs.Ytcjakkbanlgafaa
open Go.Sx Go.RowKit Go.Lib
attribute [local irreducible] Ylds astep alex alexE alexD awp PCall FCall RCall MCall QCall athen ablock ajump rpost fpost mpost

theorem same_self (X : List Nd) (h : X.length ≤ 2000000) : PCall Try.prog 17 [nodes X, nodes X] (bl true) := by
  have := Same_ok X X h
  rwa [decide_eq_true rfl] at this
theorem flat1 {v : List Nd} (h : v.length ≤ 2000000) : ([v] : List (List Nd)).flatten.length ≤ 2000000 := by simpa using h
theorem make1 {x : Nd} {v : List Nd} (h : v.length ≤ 1900000) : (makeF x [v]).length ≤ 2000000 := by simp [makeF]; omega
theorem makeK {x : Nd} {KK : List (List Nd)} (h : KK.flatten.length ≤ 1800000) : (makeF x KK).length ≤ 2000000 := by unfold makeF; rw [List.length_cons]; omega
theorem flat_at {KK : List (List Nd)} {i : Nat} {v : List Nd} (hv : KK[i]? = some v) : v.length ≤ KK.flatten.length := by
  obtain ⟨h1, h2⟩ := List.getElem?_eq_some_iff.1 hv
  have : KK.flatten = (KK.take i).flatten ++ (v ++ (KK.drop (i + 1)).flatten) := by
    conv => lhs; rw [← List.take_append_drop i KK, List.drop_eq_getElem_cons h1, h2]
    simp
  rw [this]; simp only [List.length_append]; omega

set_option maxHeartbeats 4000000 in
theorem Makes_ok (s : List UInt8) (n : Int) (KK : List (List Nd)) (hK : KK.flatten.length ≤ 1800000) : PCall Try.prog 4 [str s, i64 n, nodess KK] (bl true) := by
  have hv0 : ∀ {v : List Nd}, KK[(0 : Int).toNat]? = some v → v.length ≤ 1900000 := fun hv => by have := flat_at hv; omega
  have hv1 : ∀ {v : List Nd}, KK[(0 : Int).toNat]? = some v → v.length ≤ 2000000 := fun hv => by have := flat_at hv; omega
  refine pcall_of Try.func4 rfl Try.ntmps4 Try.results4 rfl ?_
  intro wb St0
  repeat' first
    | refine en_n ?_
    | refine awp_seq ?_
    | refine awp_region ?_
    | refine alex_nil ?_
    | refine w0 ?_
    | (apply kU (hd := rfl); exact rfl; exact rfl)
    | (apply k1u (hd := rfl); exact rfl; exact rfl)
    | (apply k0u (hd := rfl); exact rfl; exact rfl)
    | (apply Y_lssT; exact rfl; exact rfl; first
    | assumption
    | omega)
    | (apply Y_lssF; exact rfl; exact rfl; first
    | assumption
    | omega)
    | (apply Y_leqT; exact rfl; exact rfl; first
    | assumption
    | omega)
    | (apply Y_leqF; exact rfl; exact rfl; first
    | assumption
    | omega)
    | (apply Y_gtrT; exact rfl; exact rfl; first
    | assumption
    | omega)
    | (apply Y_gtrF; exact rfl; exact rfl; first
    | assumption
    | omega)
    | (apply Y_geqT; exact rfl; exact rfl; first
    | assumption
    | omega)
    | (apply Y_geqF; exact rfl; exact rfl; first
    | assumption
    | omega)
    | (apply Y_eqlT; exact rfl; exact rfl; first
    | assumption
    | omega)
    | (apply Y_eqlF; exact rfl; exact rfl; first
    | assumption
    | omega)
    | (apply Y_neqT; exact rfl; exact rfl; first
    | assumption
    | omega)
    | (apply Y_neqF; exact rfl; exact rfl; first
    | assumption
    | omega)
    | (apply Y_len_l; exact rfl; exact ustr)
    | (refine Y_call hb_awake awake_ok CoL_nil)
    | (refine Y_call hb_Text (Text_ok s) (CoL_d rfl CoL_nil))
    | (refine Y_call hb_Line Line_ok CoL_nil)
    | (apply Y_build2; exact rfl; exact rfl; exact bt_text _; exact rfl)
    | (apply Y_build2; exact rfl; exact rfl; exact bt_nest _; exact rfl)
    | (apply Y_build1; exact rfl; exact bt_kind _; exact rfl)
    | (refine Y_call hb_Same (same_self (makeF ⟨41, s, 0, 0⟩ []) (by simp [makeF])) (CoL_d rfl (CoL_d rfl CoL_nil)))
    | (refine Y_call hb_Same (same_self (makeF ⟨42, [], 0, 0⟩ []) (by simp [makeF])) (CoL_d rfl (CoL_d rfl CoL_nil)))
    | (refine Y_call hb_Cat (Cat_ok KK (by omega) (by omega)) (CoL_d rfl CoL_nil))
    | (refine Y_call hb_rMake5 (rMake5_ok ⟨45, [], 0, 0⟩ KK (by omega) (by omega)) (CoL_d rfl (CoL_d rfl CoL_nil)))
    | (refine Y_call hb_Same (same_self (makeF ⟨45, [], 0, 0⟩ KK) (makeK hK)) (CoL_d rfl (CoL_d rfl CoL_nil)))
    | (refine Y_call hb_own (own_ok (v) (hv1 hv)) (CoL_d rfl CoL_nil))
    | (refine Y_call hb_Nest (Nest_ok n (v) (hv1 hv)) (CoL_d rfl (CoL_d rfl CoL_nil)))
    | (refine Y_call hb_rMake5 (rMake5_ok ⟨43, [], n, 0⟩ [v] (by simp) (flat1 (hv1 hv))) (CoL_d rfl (CoL_d rfl CoL_nil)))
    | (refine Y_call hb_Same (same_self (makeF ⟨43, [], n, 0⟩ [v]) (make1 (hv0 hv))) (CoL_d rfl (CoL_d rfl CoL_nil)))
    | (refine Y_call hb_Group (Group_ok (v) (hv1 hv)) (CoL_d rfl CoL_nil))
    | (refine Y_call hb_rMake5 (rMake5_ok ⟨44, [], 0, 0⟩ [v] (by simp) (flat1 (hv1 hv))) (CoL_d rfl (CoL_d rfl CoL_nil)))
    | (refine Y_call hb_Same (same_self (makeF ⟨44, [], 0, 0⟩ [v]) (make1 (hv0 hv))) (CoL_d rfl (CoL_d rfl CoL_nil)))
    | (refine Y_call hb_own (own_ok ([]) (by decide)) (CoL_d rfl CoL_nil))
    | (refine Y_call hb_Nest (Nest_ok n ([]) (by decide)) (CoL_d rfl (CoL_d rfl CoL_nil)))
    | (refine Y_call hb_rMake5 (rMake5_ok ⟨43, [], n, 0⟩ [[]] (by simp) (flat1 (by decide))) (CoL_d rfl (CoL_d rfl CoL_nil)))
    | (refine Y_call hb_Same (same_self (makeF ⟨43, [], n, 0⟩ [[]]) (make1 (by decide))) (CoL_d rfl (CoL_d rfl CoL_nil)))
    | (refine Y_call hb_Group (Group_ok ([]) (by decide)) (CoL_d rfl CoL_nil))
    | (refine Y_call hb_rMake5 (rMake5_ok ⟨44, [], 0, 0⟩ [[]] (by simp) (flat1 (by decide))) (CoL_d rfl (CoL_d rfl CoL_nil)))
    | (refine Y_call hb_Same (same_self (makeF ⟨44, [], 0, 0⟩ [[]]) (make1 (by decide))) (CoL_d rfl (CoL_d rfl CoL_nil)))
    | (apply aJ (hd := rfl); (first | exact Co_dd rfl | exact Co_bb rfl rfl rfl | exact Co_nn rfl); exact rfl; exact (by first | exact es_nodes | exact es_ints | exact es_nodess); assumption; omega; exact fun _ => rfl)
    | (apply aI (hd := rfl); (first | exact Co_dd rfl | exact Co_bb rfl rfl rfl | exact Co_nn rfl); exact rfl; exact (by first | exact es_nodes | exact es_ints | exact es_nodess); exact fun _ => rfl; rotate_left; intro v hv; rotate_right)
    | (apply aApp (hd := rfl) (hro := rfl); exact rfl; exact rfl; (first | exact Co_dd rfl | exact Co_bb rfl rfl rfl | exact Co_nn rfl); (first | exact rfl | (simp; done)); exact rfl; exact (by first | exact ety_nodes | exact ety_ints | exact ety_nodess); exact (by first | exact es_nodes | exact es_ints | exact es_nodess); exact (by first | exact zl_node | exact zl_int | exact zl_nodes); exact (by first | exact by_nodes | exact by_ints | exact by_nodess); (first | exact sz_map (fun _ => rfl) | exact sz_lit rfl))
    | (apply aBox (hd := rfl) (hro := rfl); exact rfl; exact rfl)
    | (apply aAlloc (hd := rfl) (hro := rfl); exact (by first | exact zo_node | exact zo_int))
    | apply ay (hd := rfl)
    | (apply Y_move_d; exact rfl)
    | (apply Y_assign_d; exact rfl)
    | (apply Y_field_r; exact rfl; exact (by first | exact fo_0 | exact fo_1 | exact fo_2 | exact fo_3))
    | (apply Y_load_r1; exact rfl; exact (by first | exact tc_int | exact tc_nodes | exact tc_node | exact tc_ints | exact tc_kind | exact tc_i64 | exact tc_str | exact tc_bool))
    | (apply Y_load_r; exact rfl; exact (by first | exact tc_int | exact tc_nodes | exact tc_node | exact tc_ints | exact tc_kind | exact tc_i64 | exact tc_str | exact tc_bool); exact rfl)
    | (apply Y_len_m; exact rfl; exact (by first | exact et_nodes | exact et_ints | exact et_nodess))
    | (apply Y_len_d; exact rfl; exact (by first | exact et_nodes | exact et_ints | exact et_nodess))
    | (apply Y_lss; exact rfl; exact rfl)
    | (apply Y_leq; exact rfl; exact rfl)
    | (apply Y_gtr; exact rfl; exact rfl)
    | (apply Y_geq; exact rfl; exact rfl)
    | (apply Y_eql; exact rfl; exact rfl)
    | (apply Y_neq; exact rfl; exact rfl)
    | (apply Y_add; exact rfl; exact rfl)
    | (apply Y_sub; exact rfl; exact rfl)
    | (apply Y_mul; exact rfl; exact rfl)
    | (apply Y_not; exact rfl)
    | (apply Y_pick_t; exact rfl; exact rfl)
    | (apply Y_pick_f; exact rfl; exact rfl)
    | (apply Y_extract; exact rfl; exact rfl)
    | (apply Y_max; exact rfl; exact rfl)
    | (apply Y_move_nil; exact rfl)
    | (apply Y_assign_nil; exact rfl)
    | (apply Y_move_buf; exact rfl)
    | (apply Y_assign_buf; exact rfl)
    | (apply Y_len_buf; exact rfl; exact (by first | exact et_nodes | exact et_ints | exact et_nodess))
    | (apply Y_len_nil; exact rfl; exact (by first | exact et_nodes | exact et_ints | exact et_nodess))
    | (apply Y_move_ptr; exact rfl)
    | (apply Y_assign_ptr; exact rfl)
    | (apply Y_move_clo; exact rfl)
    | (apply Y_assign_clo; exact rfl)
    | (apply Y_field_p; exact rfl; exact (by first | exact fo_0 | exact fo_1 | exact fo_2 | exact fo_3))
    | (apply Y_load_p; exact rfl; exact (by first | exact tc_int | exact tc_nodes | exact tc_node | exact tc_ints | exact tc_kind | exact tc_i64 | exact tc_str | exact tc_bool); exact rfl; exact rfl)
    | (apply Y_load_pa; exact rfl; exact (by first | exact tc_int | exact tc_nodes | exact tc_node | exact tc_ints | exact tc_kind | exact tc_i64 | exact tc_str | exact tc_bool); exact rfl; exact rfl; exact rfl)
    | (apply Y_sl; (first | exact Co_dd rfl | exact Co_bb rfl rfl rfl | exact Co_nn rfl); exact (by first | exact es_nodes | exact es_ints | exact es_nodess); exact rfl; exact rfl; exact fun _ => rfl)
    | (apply Y_sl_l; (first | exact Co_dd rfl | exact Co_bb rfl rfl rfl | exact Co_nn rfl); exact (by first | exact es_nodes | exact es_ints | exact es_nodess); exact rfl; exact fun _ => rfl)
    | (apply Y_sl_h; (first | exact Co_dd rfl | exact Co_bb rfl rfl rfl | exact Co_nn rfl); exact (by first | exact es_nodes | exact es_ints | exact es_nodess); exact rfl; exact fun _ => rfl)
    | (apply Y_lit0; exact (by first | exact ety_nodes | exact ety_ints | exact ety_nodess); exact (by first | exact es_nodes | exact es_ints | exact es_nodess); exact (by first | exact zs_node | exact zs_int | exact zs_nodes); exact rfl)
    | (apply Y_lit1; exact (by first | exact ety_nodes | exact ety_ints | exact ety_nodess); exact (by first | exact es_nodes | exact es_ints | exact es_nodess); exact (by first | exact zs_node | exact zs_int | exact zs_nodes); exact rfl; exact rfl; (first | exact CoL_d rfl CoL_nil | exact CoL_b rfl rfl rfl CoL_nil | exact CoL_n rfl CoL_nil); exact rfl)
    | (apply Y_lit2; exact (by first | exact ety_nodes | exact ety_ints | exact ety_nodess); exact (by first | exact es_nodes | exact es_ints | exact es_nodess); exact (by first | exact zs_node | exact zs_int | exact zs_nodes); exact rfl; exact rfl; (first | exact CoL_d rfl (CoL_d rfl CoL_nil) | exact CoL_b rfl rfl rfl (CoL_b rfl rfl rfl CoL_nil)); exact rfl)
    | (apply Y_lit3; exact (by first | exact ety_nodes | exact ety_ints | exact ety_nodess); exact (by first | exact es_nodes | exact es_ints | exact es_nodess); exact (by first | exact zs_node | exact zs_int | exact zs_nodes); exact rfl; exact rfl; (exact CoL_d rfl (CoL_d rfl (CoL_d rfl CoL_nil))); exact rfl)
    | (apply Y_lit4; exact (by first | exact ety_nodes | exact ety_ints | exact ety_nodess); exact (by first | exact es_nodes | exact es_ints | exact es_nodess); exact (by first | exact zs_node | exact zs_int | exact zs_nodes); exact rfl; exact rfl; (exact CoL_d rfl (CoL_d rfl (CoL_d rfl (CoL_d rfl CoL_nil)))); exact rfl)
    | (apply Y_mkf; exact rfl)
    | (apply w1; exact rfl; exact rfl)
    | (apply k1 (hd := rfl); exact rfl; exact rfl)
    | (apply k0 (hd := rfl); exact rfl; exact rfl)
    | (apply gD; exact rfl; exact rfl; (intro hb); rotate_left; (intro hb); rotate_right)
    | (apply gN; exact rfl; exact rfl; (intro hb); rotate_left; (intro hb); rotate_right)
    | (apply g1; exact rfl; exact rfl; (intro hb); rotate_left; (intro hb); rotate_right)
    | (refine w0' ?_)
    | (apply aStore; exact rfl; exact rfl; exact rfl; exact (by first | exact tc_int | exact tc_nodes | exact tc_node | exact tc_ints | exact tc_kind | exact tc_i64 | exact tc_str | exact tc_bool); exact rfl; exact rfl; exact rfl; exact rfl)
    | (apply awp_condD; exact rfl; (intro hb); rotate_left; (intro hb); rotate_right)
    | (apply awp_condN; exact rfl; (intro hb); rotate_left; (intro hb); rotate_right)
    | (apply awp_condT; exact rfl)
    | (apply awp_condF; exact rfl)
    | (apply awp_cond; exact rfl; (intro hb); rotate_left; (intro hb); rotate_right)
    | refine awp_block ?_
    | refine awp_skip ?_
    | refine awp_ret ?_
    | refine awp_exit ?_
    | refine awp_label ?_
    | refine awp_goto ?_
    | refine awp_draw (by kernel_rfl) (by kernel_rfl) ?_
    | refine en_r ?_
    | refine en_e ?_
    | refine eb_n ?_
    | refine eb_r ?_
    | refine eb_e ?_
    | refine eb_o rfl ?_
    | refine en_g ?_
    | refine eb_g ?_
    | refine ej_n ?_
    | refine ej_r ?_
    | refine ej_e ?_
    | refine ej_g ?_
    | refine rpost_ret ?_
    | (apply res1; exact rfl)
    | (apply res1n; exact rfl)
    | (apply res1b; exact rfl; exact rfl; (first | exact rfl | (simp; done)))
    | (apply res2; exact rfl; exact rfl)
    | (apply res2n; exact rfl; exact rfl)
    | (apply res2b; exact rfl; exact rfl; (first | exact rfl | (simp; done)); exact rfl)
    | exact CoL_nil
    | refine CoL_d rfl ?_
    | refine CoL_b rfl rfl rfl ?_
    | refine CoL_n rfl ?_
    | refine CoL_v rfl ?_
  all_goals first | rfl | omega
end Go.Proofs.Ytcjakkbanlgafaa
