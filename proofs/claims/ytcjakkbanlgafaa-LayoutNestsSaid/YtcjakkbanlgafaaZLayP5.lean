/- The layout statements: the law LayoutNests. -/
import Derived.Test.YtcjakkbanlgafaaZLayP4
namespace Go.Proofs.Ytcjakkbanlgafaa
open Go.Sx Go.RowKit Go.Lib
attribute [local irreducible] Ylds astep alex alexE alexD awp PCall FCall RCall MCall QCall athen ablock ajump rpost fpost mpost

set_option maxHeartbeats 4000000 in
theorem Nests_ok (L : List Nd) (n w : Int) : PCall Try.prog 7 [nodes L, i64 n, i64 w] (bl true) := by
  by_cases hn : (L.length : Int) > 60
  · refine pcall_of Try.func7 rfl Try.ntmps7 Try.results7 rfl ?_
    intro wb St0
    repeat' first
      | refine en_n ?_
      | refine awp_seq ?_
      | refine awp_region ?_
      | refine alex_nil ?_
      | refine w0 ?_
      | (apply kU (hd := rfl); exact rfl; exact rfl)
      | (apply k1u (hd := rfl); exact rfl; exact rfl)
      | (apply k0u (hd := rfl); exact rfl; exact rfl)
      | (apply Y_lssT; exact rfl; exact rfl; first
      | assumption
      | omega)
      | (apply Y_lssF; exact rfl; exact rfl; first
      | assumption
      | omega)
      | (apply Y_leqT; exact rfl; exact rfl; first
      | assumption
      | omega)
      | (apply Y_leqF; exact rfl; exact rfl; first
      | assumption
      | omega)
      | (apply Y_gtrT; exact rfl; exact rfl; first
      | assumption
      | omega)
      | (apply Y_gtrF; exact rfl; exact rfl; first
      | assumption
      | omega)
      | (apply Y_geqT; exact rfl; exact rfl; first
      | assumption
      | omega)
      | (apply Y_geqF; exact rfl; exact rfl; first
      | assumption
      | omega)
      | (apply Y_eqlT; exact rfl; exact rfl; first
      | assumption
      | omega)
      | (apply Y_eqlF; exact rfl; exact rfl; first
      | assumption
      | omega)
      | (apply Y_neqT; exact rfl; exact rfl; first
      | assumption
      | omega)
      | (apply Y_neqF; exact rfl; exact rfl; first
      | assumption
      | omega)
      | (refine Y_call hb_awake awake_ok CoL_nil)
      | (apply aJ (hd := rfl); (first | exact Co_dd rfl | exact Co_bb rfl rfl rfl | exact Co_nn rfl); exact rfl; exact (by first | exact es_nodes | exact es_ints | exact es_nodess); assumption; omega; exact fun _ => rfl)
      | (apply aI (hd := rfl); (first | exact Co_dd rfl | exact Co_bb rfl rfl rfl | exact Co_nn rfl); exact rfl; exact (by first | exact es_nodes | exact es_ints | exact es_nodess); exact fun _ => rfl; rotate_left; intro v hv; rotate_right)
      | (apply aApp (hd := rfl) (hro := rfl); exact rfl; exact rfl; (first | exact Co_dd rfl | exact Co_bb rfl rfl rfl | exact Co_nn rfl); (first | exact rfl | (simp; done)); exact rfl; exact (by first | exact ety_nodes | exact ety_ints | exact ety_nodess); exact (by first | exact es_nodes | exact es_ints | exact es_nodess); exact (by first | exact zl_node | exact zl_int | exact zl_nodes); exact (by first | exact by_nodes | exact by_ints | exact by_nodess); (first | exact sz_map (fun _ => rfl) | exact sz_lit rfl))
      | (apply aBox (hd := rfl) (hro := rfl); exact rfl; exact rfl)
      | (apply aAlloc (hd := rfl) (hro := rfl); exact (by first | exact zo_node | exact zo_int))
      | apply ay (hd := rfl)
      | (apply Y_move_d; exact rfl)
      | (apply Y_assign_d; exact rfl)
      | (apply Y_field_r; exact rfl; exact (by first | exact fo_0 | exact fo_1 | exact fo_2 | exact fo_3))
      | (apply Y_load_r1; exact rfl; exact (by first | exact tc_int | exact tc_nodes | exact tc_node | exact tc_ints | exact tc_kind | exact tc_i64 | exact tc_str | exact tc_bool))
      | (apply Y_load_r; exact rfl; exact (by first | exact tc_int | exact tc_nodes | exact tc_node | exact tc_ints | exact tc_kind | exact tc_i64 | exact tc_str | exact tc_bool); exact rfl)
      | (apply Y_len_m; exact rfl; exact (by first | exact et_nodes | exact et_ints | exact et_nodess))
      | (apply Y_len_d; exact rfl; exact (by first | exact et_nodes | exact et_ints | exact et_nodess))
      | (apply Y_lss; exact rfl; exact rfl)
      | (apply Y_leq; exact rfl; exact rfl)
      | (apply Y_gtr; exact rfl; exact rfl)
      | (apply Y_geq; exact rfl; exact rfl)
      | (apply Y_eql; exact rfl; exact rfl)
      | (apply Y_neq; exact rfl; exact rfl)
      | (apply Y_add; exact rfl; exact rfl)
      | (apply Y_sub; exact rfl; exact rfl)
      | (apply Y_mul; exact rfl; exact rfl)
      | (apply Y_not; exact rfl)
      | (apply Y_pick_t; exact rfl; exact rfl)
      | (apply Y_pick_f; exact rfl; exact rfl)
      | (apply Y_extract; exact rfl; exact rfl)
      | (apply Y_max; exact rfl; exact rfl)
      | (apply Y_move_nil; exact rfl)
      | (apply Y_assign_nil; exact rfl)
      | (apply Y_move_buf; exact rfl)
      | (apply Y_assign_buf; exact rfl)
      | (apply Y_len_buf; exact rfl; exact (by first | exact et_nodes | exact et_ints | exact et_nodess))
      | (apply Y_len_nil; exact rfl; exact (by first | exact et_nodes | exact et_ints | exact et_nodess))
      | (apply Y_move_ptr; exact rfl)
      | (apply Y_assign_ptr; exact rfl)
      | (apply Y_move_clo; exact rfl)
      | (apply Y_assign_clo; exact rfl)
      | (apply Y_field_p; exact rfl; exact (by first | exact fo_0 | exact fo_1 | exact fo_2 | exact fo_3))
      | (apply Y_load_p; exact rfl; exact (by first | exact tc_int | exact tc_nodes | exact tc_node | exact tc_ints | exact tc_kind | exact tc_i64 | exact tc_str | exact tc_bool); exact rfl; exact rfl)
      | (apply Y_load_pa; exact rfl; exact (by first | exact tc_int | exact tc_nodes | exact tc_node | exact tc_ints | exact tc_kind | exact tc_i64 | exact tc_str | exact tc_bool); exact rfl; exact rfl; exact rfl)
      | (apply Y_sl; (first | exact Co_dd rfl | exact Co_bb rfl rfl rfl | exact Co_nn rfl); exact (by first | exact es_nodes | exact es_ints | exact es_nodess); exact rfl; exact rfl; exact fun _ => rfl)
      | (apply Y_sl_l; (first | exact Co_dd rfl | exact Co_bb rfl rfl rfl | exact Co_nn rfl); exact (by first | exact es_nodes | exact es_ints | exact es_nodess); exact rfl; exact fun _ => rfl)
      | (apply Y_sl_h; (first | exact Co_dd rfl | exact Co_bb rfl rfl rfl | exact Co_nn rfl); exact (by first | exact es_nodes | exact es_ints | exact es_nodess); exact rfl; exact fun _ => rfl)
      | (apply Y_lit0; exact (by first | exact ety_nodes | exact ety_ints | exact ety_nodess); exact (by first | exact es_nodes | exact es_ints | exact es_nodess); exact (by first | exact zs_node | exact zs_int | exact zs_nodes); exact rfl)
      | (apply Y_lit1; exact (by first | exact ety_nodes | exact ety_ints | exact ety_nodess); exact (by first | exact es_nodes | exact es_ints | exact es_nodess); exact (by first | exact zs_node | exact zs_int | exact zs_nodes); exact rfl; exact rfl; (first | exact CoL_d rfl CoL_nil | exact CoL_b rfl rfl rfl CoL_nil | exact CoL_n rfl CoL_nil); exact rfl)
      | (apply Y_lit2; exact (by first | exact ety_nodes | exact ety_ints | exact ety_nodess); exact (by first | exact es_nodes | exact es_ints | exact es_nodess); exact (by first | exact zs_node | exact zs_int | exact zs_nodes); exact rfl; exact rfl; (first | exact CoL_d rfl (CoL_d rfl CoL_nil) | exact CoL_b rfl rfl rfl (CoL_b rfl rfl rfl CoL_nil)); exact rfl)
      | (apply Y_lit3; exact (by first | exact ety_nodes | exact ety_ints | exact ety_nodess); exact (by first | exact es_nodes | exact es_ints | exact es_nodess); exact (by first | exact zs_node | exact zs_int | exact zs_nodes); exact rfl; exact rfl; (exact CoL_d rfl (CoL_d rfl (CoL_d rfl CoL_nil))); exact rfl)
      | (apply Y_lit4; exact (by first | exact ety_nodes | exact ety_ints | exact ety_nodess); exact (by first | exact es_nodes | exact es_ints | exact es_nodess); exact (by first | exact zs_node | exact zs_int | exact zs_nodes); exact rfl; exact rfl; (exact CoL_d rfl (CoL_d rfl (CoL_d rfl (CoL_d rfl CoL_nil)))); exact rfl)
      | (apply Y_mkf; exact rfl)
      | (apply w1; exact rfl; exact rfl)
      | (apply k1 (hd := rfl); exact rfl; exact rfl)
      | (apply k0 (hd := rfl); exact rfl; exact rfl)
      | (apply gD; exact rfl; exact rfl; (intro hb); rotate_left; (intro hb); rotate_right)
      | (apply gN; exact rfl; exact rfl; (intro hb); rotate_left; (intro hb); rotate_right)
      | (apply g1; exact rfl; exact rfl; (intro hb); rotate_left; (intro hb); rotate_right)
      | (refine w0' ?_)
      | (apply aStore; exact rfl; exact rfl; exact rfl; exact (by first | exact tc_int | exact tc_nodes | exact tc_node | exact tc_ints | exact tc_kind | exact tc_i64 | exact tc_str | exact tc_bool); exact rfl; exact rfl; exact rfl; exact rfl)
      | (apply awp_condD; exact rfl; (intro hb); rotate_left; (intro hb); rotate_right)
      | (apply awp_condN; exact rfl; (intro hb); rotate_left; (intro hb); rotate_right)
      | (apply awp_condT; exact rfl)
      | (apply awp_condF; exact rfl)
      | (apply awp_cond; exact rfl; (intro hb); rotate_left; (intro hb); rotate_right)
      | refine awp_block ?_
      | refine awp_skip ?_
      | refine awp_ret ?_
      | refine awp_exit ?_
      | refine awp_label ?_
      | refine awp_goto ?_
      | refine awp_draw (by kernel_rfl) (by kernel_rfl) ?_
      | refine en_r ?_
      | refine en_e ?_
      | refine eb_n ?_
      | refine eb_r ?_
      | refine eb_e ?_
      | refine eb_o rfl ?_
      | refine en_g ?_
      | refine eb_g ?_
      | refine ej_n ?_
      | refine ej_r ?_
      | refine ej_e ?_
      | refine ej_g ?_
      | refine rpost_ret ?_
      | (apply res1; exact rfl)
      | (apply res1n; exact rfl)
      | (apply res1b; exact rfl; exact rfl; (first | exact rfl | (simp; done)))
      | (apply res2; exact rfl; exact rfl)
      | (apply res2n; exact rfl; exact rfl)
      | (apply res2b; exact rfl; exact rfl; (first | exact rfl | (simp; done)); exact rfl)
      | exact CoL_nil
      | refine CoL_d rfl ?_
      | refine CoL_b rfl rfl rfl ?_
      | refine CoL_n rfl ?_
      | refine CoL_v rfl ?_
    rfl
  have hlo := long_ok L (by omega)
  have hL : L.length ≤ 2000000 := by omega
  cases hl : longF L with
  | true =>
    rw [hl] at hlo
    refine pcall_of Try.func7 rfl Try.ntmps7 Try.results7 rfl ?_
    intro wb St0
    repeat' first
      | refine en_n ?_
      | refine awp_seq ?_
      | refine awp_region ?_
      | refine alex_nil ?_
      | refine w0 ?_
      | (apply kU (hd := rfl); exact rfl; exact rfl)
      | (apply k1u (hd := rfl); exact rfl; exact rfl)
      | (apply k0u (hd := rfl); exact rfl; exact rfl)
      | (apply Y_lssT; exact rfl; exact rfl; first
      | assumption
      | omega)
      | (apply Y_lssF; exact rfl; exact rfl; first
      | assumption
      | omega)
      | (apply Y_leqT; exact rfl; exact rfl; first
      | assumption
      | omega)
      | (apply Y_leqF; exact rfl; exact rfl; first
      | assumption
      | omega)
      | (apply Y_gtrT; exact rfl; exact rfl; first
      | assumption
      | omega)
      | (apply Y_gtrF; exact rfl; exact rfl; first
      | assumption
      | omega)
      | (apply Y_geqT; exact rfl; exact rfl; first
      | assumption
      | omega)
      | (apply Y_geqF; exact rfl; exact rfl; first
      | assumption
      | omega)
      | (apply Y_eqlT; exact rfl; exact rfl; first
      | assumption
      | omega)
      | (apply Y_eqlF; exact rfl; exact rfl; first
      | assumption
      | omega)
      | (apply Y_neqT; exact rfl; exact rfl; first
      | assumption
      | omega)
      | (apply Y_neqF; exact rfl; exact rfl; first
      | assumption
      | omega)
      | (refine Y_call hb_awake awake_ok CoL_nil)
      | (apply Y_call (hb := hb_long) (hc := hlo))
      | (apply aJ (hd := rfl); (first | exact Co_dd rfl | exact Co_bb rfl rfl rfl | exact Co_nn rfl); exact rfl; exact (by first | exact es_nodes | exact es_ints | exact es_nodess); assumption; omega; exact fun _ => rfl)
      | (apply aI (hd := rfl); (first | exact Co_dd rfl | exact Co_bb rfl rfl rfl | exact Co_nn rfl); exact rfl; exact (by first | exact es_nodes | exact es_ints | exact es_nodess); exact fun _ => rfl; rotate_left; intro v hv; rotate_right)
      | (apply aApp (hd := rfl) (hro := rfl); exact rfl; exact rfl; (first | exact Co_dd rfl | exact Co_bb rfl rfl rfl | exact Co_nn rfl); (first | exact rfl | (simp; done)); exact rfl; exact (by first | exact ety_nodes | exact ety_ints | exact ety_nodess); exact (by first | exact es_nodes | exact es_ints | exact es_nodess); exact (by first | exact zl_node | exact zl_int | exact zl_nodes); exact (by first | exact by_nodes | exact by_ints | exact by_nodess); (first | exact sz_map (fun _ => rfl) | exact sz_lit rfl))
      | (apply aBox (hd := rfl) (hro := rfl); exact rfl; exact rfl)
      | (apply aAlloc (hd := rfl) (hro := rfl); exact (by first | exact zo_node | exact zo_int))
      | apply ay (hd := rfl)
      | (apply Y_move_d; exact rfl)
      | (apply Y_assign_d; exact rfl)
      | (apply Y_field_r; exact rfl; exact (by first | exact fo_0 | exact fo_1 | exact fo_2 | exact fo_3))
      | (apply Y_load_r1; exact rfl; exact (by first | exact tc_int | exact tc_nodes | exact tc_node | exact tc_ints | exact tc_kind | exact tc_i64 | exact tc_str | exact tc_bool))
      | (apply Y_load_r; exact rfl; exact (by first | exact tc_int | exact tc_nodes | exact tc_node | exact tc_ints | exact tc_kind | exact tc_i64 | exact tc_str | exact tc_bool); exact rfl)
      | (apply Y_len_m; exact rfl; exact (by first | exact et_nodes | exact et_ints | exact et_nodess))
      | (apply Y_len_d; exact rfl; exact (by first | exact et_nodes | exact et_ints | exact et_nodess))
      | (apply Y_lss; exact rfl; exact rfl)
      | (apply Y_leq; exact rfl; exact rfl)
      | (apply Y_gtr; exact rfl; exact rfl)
      | (apply Y_geq; exact rfl; exact rfl)
      | (apply Y_eql; exact rfl; exact rfl)
      | (apply Y_neq; exact rfl; exact rfl)
      | (apply Y_add; exact rfl; exact rfl)
      | (apply Y_sub; exact rfl; exact rfl)
      | (apply Y_mul; exact rfl; exact rfl)
      | (apply Y_not; exact rfl)
      | (apply Y_pick_t; exact rfl; exact rfl)
      | (apply Y_pick_f; exact rfl; exact rfl)
      | (apply Y_extract; exact rfl; exact rfl)
      | (apply Y_max; exact rfl; exact rfl)
      | (apply Y_move_nil; exact rfl)
      | (apply Y_assign_nil; exact rfl)
      | (apply Y_move_buf; exact rfl)
      | (apply Y_assign_buf; exact rfl)
      | (apply Y_len_buf; exact rfl; exact (by first | exact et_nodes | exact et_ints | exact et_nodess))
      | (apply Y_len_nil; exact rfl; exact (by first | exact et_nodes | exact et_ints | exact et_nodess))
      | (apply Y_move_ptr; exact rfl)
      | (apply Y_assign_ptr; exact rfl)
      | (apply Y_move_clo; exact rfl)
      | (apply Y_assign_clo; exact rfl)
      | (apply Y_field_p; exact rfl; exact (by first | exact fo_0 | exact fo_1 | exact fo_2 | exact fo_3))
      | (apply Y_load_p; exact rfl; exact (by first | exact tc_int | exact tc_nodes | exact tc_node | exact tc_ints | exact tc_kind | exact tc_i64 | exact tc_str | exact tc_bool); exact rfl; exact rfl)
      | (apply Y_load_pa; exact rfl; exact (by first | exact tc_int | exact tc_nodes | exact tc_node | exact tc_ints | exact tc_kind | exact tc_i64 | exact tc_str | exact tc_bool); exact rfl; exact rfl; exact rfl)
      | (apply Y_sl; (first | exact Co_dd rfl | exact Co_bb rfl rfl rfl | exact Co_nn rfl); exact (by first | exact es_nodes | exact es_ints | exact es_nodess); exact rfl; exact rfl; exact fun _ => rfl)
      | (apply Y_sl_l; (first | exact Co_dd rfl | exact Co_bb rfl rfl rfl | exact Co_nn rfl); exact (by first | exact es_nodes | exact es_ints | exact es_nodess); exact rfl; exact fun _ => rfl)
      | (apply Y_sl_h; (first | exact Co_dd rfl | exact Co_bb rfl rfl rfl | exact Co_nn rfl); exact (by first | exact es_nodes | exact es_ints | exact es_nodess); exact rfl; exact fun _ => rfl)
      | (apply Y_lit0; exact (by first | exact ety_nodes | exact ety_ints | exact ety_nodess); exact (by first | exact es_nodes | exact es_ints | exact es_nodess); exact (by first | exact zs_node | exact zs_int | exact zs_nodes); exact rfl)
      | (apply Y_lit1; exact (by first | exact ety_nodes | exact ety_ints | exact ety_nodess); exact (by first | exact es_nodes | exact es_ints | exact es_nodess); exact (by first | exact zs_node | exact zs_int | exact zs_nodes); exact rfl; exact rfl; (first | exact CoL_d rfl CoL_nil | exact CoL_b rfl rfl rfl CoL_nil | exact CoL_n rfl CoL_nil); exact rfl)
      | (apply Y_lit2; exact (by first | exact ety_nodes | exact ety_ints | exact ety_nodess); exact (by first | exact es_nodes | exact es_ints | exact es_nodess); exact (by first | exact zs_node | exact zs_int | exact zs_nodes); exact rfl; exact rfl; (first | exact CoL_d rfl (CoL_d rfl CoL_nil) | exact CoL_b rfl rfl rfl (CoL_b rfl rfl rfl CoL_nil)); exact rfl)
      | (apply Y_lit3; exact (by first | exact ety_nodes | exact ety_ints | exact ety_nodess); exact (by first | exact es_nodes | exact es_ints | exact es_nodess); exact (by first | exact zs_node | exact zs_int | exact zs_nodes); exact rfl; exact rfl; (exact CoL_d rfl (CoL_d rfl (CoL_d rfl CoL_nil))); exact rfl)
      | (apply Y_lit4; exact (by first | exact ety_nodes | exact ety_ints | exact ety_nodess); exact (by first | exact es_nodes | exact es_ints | exact es_nodess); exact (by first | exact zs_node | exact zs_int | exact zs_nodes); exact rfl; exact rfl; (exact CoL_d rfl (CoL_d rfl (CoL_d rfl (CoL_d rfl CoL_nil)))); exact rfl)
      | (apply Y_mkf; exact rfl)
      | (apply w1; exact rfl; exact rfl)
      | (apply k1 (hd := rfl); exact rfl; exact rfl)
      | (apply k0 (hd := rfl); exact rfl; exact rfl)
      | (apply gD; exact rfl; exact rfl; (intro hb); rotate_left; (intro hb); rotate_right)
      | (apply gN; exact rfl; exact rfl; (intro hb); rotate_left; (intro hb); rotate_right)
      | (apply g1; exact rfl; exact rfl; (intro hb); rotate_left; (intro hb); rotate_right)
      | (refine w0' ?_)
      | (apply aStore; exact rfl; exact rfl; exact rfl; exact (by first | exact tc_int | exact tc_nodes | exact tc_node | exact tc_ints | exact tc_kind | exact tc_i64 | exact tc_str | exact tc_bool); exact rfl; exact rfl; exact rfl; exact rfl)
      | (apply awp_condD; exact rfl; (intro hb); rotate_left; (intro hb); rotate_right)
      | (apply awp_condN; exact rfl; (intro hb); rotate_left; (intro hb); rotate_right)
      | (apply awp_condT; exact rfl)
      | (apply awp_condF; exact rfl)
      | (apply awp_cond; exact rfl; (intro hb); rotate_left; (intro hb); rotate_right)
      | refine awp_block ?_
      | refine awp_skip ?_
      | refine awp_ret ?_
      | refine awp_exit ?_
      | refine awp_label ?_
      | refine awp_goto ?_
      | refine awp_draw (by kernel_rfl) (by kernel_rfl) ?_
      | refine en_r ?_
      | refine en_e ?_
      | refine eb_n ?_
      | refine eb_r ?_
      | refine eb_e ?_
      | refine eb_o rfl ?_
      | refine en_g ?_
      | refine eb_g ?_
      | refine ej_n ?_
      | refine ej_r ?_
      | refine ej_e ?_
      | refine ej_g ?_
      | refine rpost_ret ?_
      | (apply res1; exact rfl)
      | (apply res1n; exact rfl)
      | (apply res1b; exact rfl; exact rfl; (first | exact rfl | (simp; done)))
      | (apply res2; exact rfl; exact rfl)
      | (apply res2n; exact rfl; exact rfl)
      | (apply res2b; exact rfl; exact rfl; (first | exact rfl | (simp; done)); exact rfl)
      | exact CoL_nil
      | refine CoL_d rfl ?_
      | refine CoL_b rfl rfl rfl ?_
      | refine CoL_n rfl ?_
      | refine CoL_v rfl ?_
    rfl
  | false =>
    rw [hl] at hlo
    have ht := long_no hl
    have how := own_ok L hL
    have hch := Check_ok L hL
    by_cases hg : n < 0 ∨ n > 40 ∨ w < 1 ∨ w > 900
    · refine pcall_of Try.func7 rfl Try.ntmps7 Try.results7 rfl ?_
      intro wb St0
      repeat' first
        | refine en_n ?_
        | refine awp_seq ?_
        | refine awp_region ?_
        | refine alex_nil ?_
        | refine w0 ?_
        | (apply Y_strT; exact rfl; exact rfl; exact rfl)
        | (apply Y_neqs; exact rfl; exact rfl)
        | (apply Y_eqlT; exact rfl; exact rfl; exact rfl)
        | (apply kU (hd := rfl); exact rfl; exact rfl)
        | (apply k1u (hd := rfl); exact rfl; exact rfl)
        | (apply k0u (hd := rfl); exact rfl; exact rfl)
        | (apply Y_lssT; exact rfl; exact rfl; first
        | assumption
        | omega)
        | (apply Y_lssF; exact rfl; exact rfl; first
        | assumption
        | omega)
        | (apply Y_leqT; exact rfl; exact rfl; first
        | assumption
        | omega)
        | (apply Y_leqF; exact rfl; exact rfl; first
        | assumption
        | omega)
        | (apply Y_gtrT; exact rfl; exact rfl; first
        | assumption
        | omega)
        | (apply Y_gtrF; exact rfl; exact rfl; first
        | assumption
        | omega)
        | (apply Y_geqT; exact rfl; exact rfl; first
        | assumption
        | omega)
        | (apply Y_geqF; exact rfl; exact rfl; first
        | assumption
        | omega)
        | (apply Y_eqlT; exact rfl; exact rfl; first
        | assumption
        | omega)
        | (apply Y_eqlF; exact rfl; exact rfl; first
        | assumption
        | omega)
        | (apply Y_neqT; exact rfl; exact rfl; first
        | assumption
        | omega)
        | (apply Y_neqF; exact rfl; exact rfl; first
        | assumption
        | omega)
        | (refine Y_call hb_awake awake_ok CoL_nil)
        | (apply Y_call (hb := hb_long) (hc := hlo))
        | (apply aJ (hd := rfl); (first | exact Co_dd rfl | exact Co_bb rfl rfl rfl | exact Co_nn rfl); exact rfl; exact (by first | exact es_nodes | exact es_ints | exact es_nodess); assumption; omega; exact fun _ => rfl)
        | (apply aI (hd := rfl); (first | exact Co_dd rfl | exact Co_bb rfl rfl rfl | exact Co_nn rfl); exact rfl; exact (by first | exact es_nodes | exact es_ints | exact es_nodess); exact fun _ => rfl; rotate_left; intro v hv; rotate_right)
        | (apply aApp (hd := rfl) (hro := rfl); exact rfl; exact rfl; (first | exact Co_dd rfl | exact Co_bb rfl rfl rfl | exact Co_nn rfl); (first | exact rfl | (simp; done)); exact rfl; exact (by first | exact ety_nodes | exact ety_ints | exact ety_nodess); exact (by first | exact es_nodes | exact es_ints | exact es_nodess); exact (by first | exact zl_node | exact zl_int | exact zl_nodes); exact (by first | exact by_nodes | exact by_ints | exact by_nodess); (first | exact sz_map (fun _ => rfl) | exact sz_lit rfl))
        | (apply aBox (hd := rfl) (hro := rfl); exact rfl; exact rfl)
        | (apply aAlloc (hd := rfl) (hro := rfl); exact (by first | exact zo_node | exact zo_int))
        | apply ay (hd := rfl)
        | (apply Y_move_d; exact rfl)
        | (apply Y_assign_d; exact rfl)
        | (apply Y_field_r; exact rfl; exact (by first | exact fo_0 | exact fo_1 | exact fo_2 | exact fo_3))
        | (apply Y_load_r1; exact rfl; exact (by first | exact tc_int | exact tc_nodes | exact tc_node | exact tc_ints | exact tc_kind | exact tc_i64 | exact tc_str | exact tc_bool))
        | (apply Y_load_r; exact rfl; exact (by first | exact tc_int | exact tc_nodes | exact tc_node | exact tc_ints | exact tc_kind | exact tc_i64 | exact tc_str | exact tc_bool); exact rfl)
        | (apply Y_len_m; exact rfl; exact (by first | exact et_nodes | exact et_ints | exact et_nodess))
        | (apply Y_len_d; exact rfl; exact (by first | exact et_nodes | exact et_ints | exact et_nodess))
        | (apply Y_lss; exact rfl; exact rfl)
        | (apply Y_leq; exact rfl; exact rfl)
        | (apply Y_gtr; exact rfl; exact rfl)
        | (apply Y_geq; exact rfl; exact rfl)
        | (apply Y_eql; exact rfl; exact rfl)
        | (apply Y_neq; exact rfl; exact rfl)
        | (apply Y_add; exact rfl; exact rfl)
        | (apply Y_sub; exact rfl; exact rfl)
        | (apply Y_mul; exact rfl; exact rfl)
        | (apply Y_not; exact rfl)
        | (apply Y_pick_t; exact rfl; exact rfl)
        | (apply Y_pick_f; exact rfl; exact rfl)
        | (apply Y_extract; exact rfl; exact rfl)
        | (apply Y_max; exact rfl; exact rfl)
        | (apply Y_move_nil; exact rfl)
        | (apply Y_assign_nil; exact rfl)
        | (apply Y_move_buf; exact rfl)
        | (apply Y_assign_buf; exact rfl)
        | (apply Y_len_buf; exact rfl; exact (by first | exact et_nodes | exact et_ints | exact et_nodess))
        | (apply Y_len_nil; exact rfl; exact (by first | exact et_nodes | exact et_ints | exact et_nodess))
        | (apply Y_move_ptr; exact rfl)
        | (apply Y_assign_ptr; exact rfl)
        | (apply Y_move_clo; exact rfl)
        | (apply Y_assign_clo; exact rfl)
        | (apply Y_field_p; exact rfl; exact (by first | exact fo_0 | exact fo_1 | exact fo_2 | exact fo_3))
        | (apply Y_load_p; exact rfl; exact (by first | exact tc_int | exact tc_nodes | exact tc_node | exact tc_ints | exact tc_kind | exact tc_i64 | exact tc_str | exact tc_bool); exact rfl; exact rfl)
        | (apply Y_load_pa; exact rfl; exact (by first | exact tc_int | exact tc_nodes | exact tc_node | exact tc_ints | exact tc_kind | exact tc_i64 | exact tc_str | exact tc_bool); exact rfl; exact rfl; exact rfl)
        | (apply Y_sl; (first | exact Co_dd rfl | exact Co_bb rfl rfl rfl | exact Co_nn rfl); exact (by first | exact es_nodes | exact es_ints | exact es_nodess); exact rfl; exact rfl; exact fun _ => rfl)
        | (apply Y_sl_l; (first | exact Co_dd rfl | exact Co_bb rfl rfl rfl | exact Co_nn rfl); exact (by first | exact es_nodes | exact es_ints | exact es_nodess); exact rfl; exact fun _ => rfl)
        | (apply Y_sl_h; (first | exact Co_dd rfl | exact Co_bb rfl rfl rfl | exact Co_nn rfl); exact (by first | exact es_nodes | exact es_ints | exact es_nodess); exact rfl; exact fun _ => rfl)
        | (apply Y_lit0; exact (by first | exact ety_nodes | exact ety_ints | exact ety_nodess); exact (by first | exact es_nodes | exact es_ints | exact es_nodess); exact (by first | exact zs_node | exact zs_int | exact zs_nodes); exact rfl)
        | (apply Y_lit1; exact (by first | exact ety_nodes | exact ety_ints | exact ety_nodess); exact (by first | exact es_nodes | exact es_ints | exact es_nodess); exact (by first | exact zs_node | exact zs_int | exact zs_nodes); exact rfl; exact rfl; (first | exact CoL_d rfl CoL_nil | exact CoL_b rfl rfl rfl CoL_nil | exact CoL_n rfl CoL_nil); exact rfl)
        | (apply Y_lit2; exact (by first | exact ety_nodes | exact ety_ints | exact ety_nodess); exact (by first | exact es_nodes | exact es_ints | exact es_nodess); exact (by first | exact zs_node | exact zs_int | exact zs_nodes); exact rfl; exact rfl; (first | exact CoL_d rfl (CoL_d rfl CoL_nil) | exact CoL_b rfl rfl rfl (CoL_b rfl rfl rfl CoL_nil)); exact rfl)
        | (apply Y_lit3; exact (by first | exact ety_nodes | exact ety_ints | exact ety_nodess); exact (by first | exact es_nodes | exact es_ints | exact es_nodess); exact (by first | exact zs_node | exact zs_int | exact zs_nodes); exact rfl; exact rfl; (exact CoL_d rfl (CoL_d rfl (CoL_d rfl CoL_nil))); exact rfl)
        | (apply Y_lit4; exact (by first | exact ety_nodes | exact ety_ints | exact ety_nodess); exact (by first | exact es_nodes | exact es_ints | exact es_nodess); exact (by first | exact zs_node | exact zs_int | exact zs_nodes); exact rfl; exact rfl; (exact CoL_d rfl (CoL_d rfl (CoL_d rfl (CoL_d rfl CoL_nil)))); exact rfl)
        | (apply Y_mkf; exact rfl)
        | (apply w1; exact rfl; exact rfl)
        | (apply k1 (hd := rfl); exact rfl; exact rfl)
        | (apply k0 (hd := rfl); exact rfl; exact rfl)
        | (apply gD; exact rfl; exact rfl; (intro hb); rotate_left; (intro hb); rotate_right)
        | (apply gN; exact rfl; exact rfl; (intro hb); rotate_left; (intro hb); rotate_right)
        | (apply g1; exact rfl; exact rfl; (intro hb); rotate_left; (intro hb); rotate_right)
        | (refine w0' ?_)
        | (apply aStore; exact rfl; exact rfl; exact rfl; exact (by first | exact tc_int | exact tc_nodes | exact tc_node | exact tc_ints | exact tc_kind | exact tc_i64 | exact tc_str | exact tc_bool); exact rfl; exact rfl; exact rfl; exact rfl)
        | (apply awp_condD; exact rfl; (intro hb); rotate_left; (intro hb); rotate_right)
        | (apply awp_condN; exact rfl; (intro hb); rotate_left; (intro hb); rotate_right)
        | (apply awp_condT; exact rfl)
        | (apply awp_condF; exact rfl)
        | (apply awp_cond; exact rfl; (intro hb); rotate_left; (intro hb); rotate_right)
        | refine awp_block ?_
        | refine awp_skip ?_
        | refine awp_ret ?_
        | refine awp_exit ?_
        | refine awp_label ?_
        | refine awp_goto ?_
        | refine awp_draw (by kernel_rfl) (by kernel_rfl) ?_
        | refine en_r ?_
        | refine en_e ?_
        | refine eb_n ?_
        | refine eb_r ?_
        | refine eb_e ?_
        | refine eb_o rfl ?_
        | refine en_g ?_
        | refine eb_g ?_
        | refine ej_n ?_
        | refine ej_r ?_
        | refine ej_e ?_
        | refine ej_g ?_
        | refine rpost_ret ?_
        | (apply res1; exact rfl)
        | (apply res1n; exact rfl)
        | (apply res1b; exact rfl; exact rfl; (first | exact rfl | (simp; done)))
        | (apply res2; exact rfl; exact rfl)
        | (apply res2n; exact rfl; exact rfl)
        | (apply res2b; exact rfl; exact rfl; (first | exact rfl | (simp; done)); exact rfl)
        | exact CoL_nil
        | refine CoL_d rfl ?_
        | refine CoL_b rfl rfl rfl ?_
        | refine CoL_n rfl ?_
        | refine CoL_v rfl ?_
      all_goals rfl
    cases hc : chkF L with
    | false =>
      refine pcall_of Try.func7 rfl Try.ntmps7 Try.results7 rfl ?_
      intro wb St0
      repeat' first
        | refine en_n ?_
        | refine awp_seq ?_
        | refine awp_region ?_
        | refine alex_nil ?_
        | refine w0 ?_
        | (apply Y_strT; exact rfl; exact rfl; exact rfl)
        | (apply Y_neqs; exact rfl; exact rfl)
        | (apply Y_eqlT; exact rfl; exact rfl; exact rfl)
        | (apply kU (hd := rfl); exact rfl; exact rfl)
        | (apply k1u (hd := rfl); exact rfl; exact rfl)
        | (apply k0u (hd := rfl); exact rfl; exact rfl)
        | (apply Y_lssT; exact rfl; exact rfl; first
        | assumption
        | omega)
        | (apply Y_lssF; exact rfl; exact rfl; first
        | assumption
        | omega)
        | (apply Y_leqT; exact rfl; exact rfl; first
        | assumption
        | omega)
        | (apply Y_leqF; exact rfl; exact rfl; first
        | assumption
        | omega)
        | (apply Y_gtrT; exact rfl; exact rfl; first
        | assumption
        | omega)
        | (apply Y_gtrF; exact rfl; exact rfl; first
        | assumption
        | omega)
        | (apply Y_geqT; exact rfl; exact rfl; first
        | assumption
        | omega)
        | (apply Y_geqF; exact rfl; exact rfl; first
        | assumption
        | omega)
        | (apply Y_eqlT; exact rfl; exact rfl; first
        | assumption
        | omega)
        | (apply Y_eqlF; exact rfl; exact rfl; first
        | assumption
        | omega)
        | (apply Y_neqT; exact rfl; exact rfl; first
        | assumption
        | omega)
        | (apply Y_neqF; exact rfl; exact rfl; first
        | assumption
        | omega)
        | (refine Y_call hb_awake awake_ok CoL_nil)
        | (apply Y_call (hb := hb_long) (hc := hlo))
        | (apply Y_call (hb := hb_own) (hc := how))
        | (apply Y_call (hb := hb_Check) (hc := Check_no hL hc))
        | (apply aJ (hd := rfl); (first | exact Co_dd rfl | exact Co_bb rfl rfl rfl | exact Co_nn rfl); exact rfl; exact (by first | exact es_nodes | exact es_ints | exact es_nodess); assumption; omega; exact fun _ => rfl)
        | (apply aI (hd := rfl); (first | exact Co_dd rfl | exact Co_bb rfl rfl rfl | exact Co_nn rfl); exact rfl; exact (by first | exact es_nodes | exact es_ints | exact es_nodess); exact fun _ => rfl; rotate_left; intro v hv; rotate_right)
        | (apply aApp (hd := rfl) (hro := rfl); exact rfl; exact rfl; (first | exact Co_dd rfl | exact Co_bb rfl rfl rfl | exact Co_nn rfl); (first | exact rfl | (simp; done)); exact rfl; exact (by first | exact ety_nodes | exact ety_ints | exact ety_nodess); exact (by first | exact es_nodes | exact es_ints | exact es_nodess); exact (by first | exact zl_node | exact zl_int | exact zl_nodes); exact (by first | exact by_nodes | exact by_ints | exact by_nodess); (first | exact sz_map (fun _ => rfl) | exact sz_lit rfl))
        | (apply aBox (hd := rfl) (hro := rfl); exact rfl; exact rfl)
        | (apply aAlloc (hd := rfl) (hro := rfl); exact (by first | exact zo_node | exact zo_int))
        | apply ay (hd := rfl)
        | (apply Y_move_d; exact rfl)
        | (apply Y_assign_d; exact rfl)
        | (apply Y_field_r; exact rfl; exact (by first | exact fo_0 | exact fo_1 | exact fo_2 | exact fo_3))
        | (apply Y_load_r1; exact rfl; exact (by first | exact tc_int | exact tc_nodes | exact tc_node | exact tc_ints | exact tc_kind | exact tc_i64 | exact tc_str | exact tc_bool))
        | (apply Y_load_r; exact rfl; exact (by first | exact tc_int | exact tc_nodes | exact tc_node | exact tc_ints | exact tc_kind | exact tc_i64 | exact tc_str | exact tc_bool); exact rfl)
        | (apply Y_len_m; exact rfl; exact (by first | exact et_nodes | exact et_ints | exact et_nodess))
        | (apply Y_len_d; exact rfl; exact (by first | exact et_nodes | exact et_ints | exact et_nodess))
        | (apply Y_lss; exact rfl; exact rfl)
        | (apply Y_leq; exact rfl; exact rfl)
        | (apply Y_gtr; exact rfl; exact rfl)
        | (apply Y_geq; exact rfl; exact rfl)
        | (apply Y_eql; exact rfl; exact rfl)
        | (apply Y_neq; exact rfl; exact rfl)
        | (apply Y_add; exact rfl; exact rfl)
        | (apply Y_sub; exact rfl; exact rfl)
        | (apply Y_mul; exact rfl; exact rfl)
        | (apply Y_not; exact rfl)
        | (apply Y_pick_t; exact rfl; exact rfl)
        | (apply Y_pick_f; exact rfl; exact rfl)
        | (apply Y_extract; exact rfl; exact rfl)
        | (apply Y_max; exact rfl; exact rfl)
        | (apply Y_move_nil; exact rfl)
        | (apply Y_assign_nil; exact rfl)
        | (apply Y_move_buf; exact rfl)
        | (apply Y_assign_buf; exact rfl)
        | (apply Y_len_buf; exact rfl; exact (by first | exact et_nodes | exact et_ints | exact et_nodess))
        | (apply Y_len_nil; exact rfl; exact (by first | exact et_nodes | exact et_ints | exact et_nodess))
        | (apply Y_move_ptr; exact rfl)
        | (apply Y_assign_ptr; exact rfl)
        | (apply Y_move_clo; exact rfl)
        | (apply Y_assign_clo; exact rfl)
        | (apply Y_field_p; exact rfl; exact (by first | exact fo_0 | exact fo_1 | exact fo_2 | exact fo_3))
        | (apply Y_load_p; exact rfl; exact (by first | exact tc_int | exact tc_nodes | exact tc_node | exact tc_ints | exact tc_kind | exact tc_i64 | exact tc_str | exact tc_bool); exact rfl; exact rfl)
        | (apply Y_load_pa; exact rfl; exact (by first | exact tc_int | exact tc_nodes | exact tc_node | exact tc_ints | exact tc_kind | exact tc_i64 | exact tc_str | exact tc_bool); exact rfl; exact rfl; exact rfl)
        | (apply Y_sl; (first | exact Co_dd rfl | exact Co_bb rfl rfl rfl | exact Co_nn rfl); exact (by first | exact es_nodes | exact es_ints | exact es_nodess); exact rfl; exact rfl; exact fun _ => rfl)
        | (apply Y_sl_l; (first | exact Co_dd rfl | exact Co_bb rfl rfl rfl | exact Co_nn rfl); exact (by first | exact es_nodes | exact es_ints | exact es_nodess); exact rfl; exact fun _ => rfl)
        | (apply Y_sl_h; (first | exact Co_dd rfl | exact Co_bb rfl rfl rfl | exact Co_nn rfl); exact (by first | exact es_nodes | exact es_ints | exact es_nodess); exact rfl; exact fun _ => rfl)
        | (apply Y_lit0; exact (by first | exact ety_nodes | exact ety_ints | exact ety_nodess); exact (by first | exact es_nodes | exact es_ints | exact es_nodess); exact (by first | exact zs_node | exact zs_int | exact zs_nodes); exact rfl)
        | (apply Y_lit1; exact (by first | exact ety_nodes | exact ety_ints | exact ety_nodess); exact (by first | exact es_nodes | exact es_ints | exact es_nodess); exact (by first | exact zs_node | exact zs_int | exact zs_nodes); exact rfl; exact rfl; (first | exact CoL_d rfl CoL_nil | exact CoL_b rfl rfl rfl CoL_nil | exact CoL_n rfl CoL_nil); exact rfl)
        | (apply Y_lit2; exact (by first | exact ety_nodes | exact ety_ints | exact ety_nodess); exact (by first | exact es_nodes | exact es_ints | exact es_nodess); exact (by first | exact zs_node | exact zs_int | exact zs_nodes); exact rfl; exact rfl; (first | exact CoL_d rfl (CoL_d rfl CoL_nil) | exact CoL_b rfl rfl rfl (CoL_b rfl rfl rfl CoL_nil)); exact rfl)
        | (apply Y_lit3; exact (by first | exact ety_nodes | exact ety_ints | exact ety_nodess); exact (by first | exact es_nodes | exact es_ints | exact es_nodess); exact (by first | exact zs_node | exact zs_int | exact zs_nodes); exact rfl; exact rfl; (exact CoL_d rfl (CoL_d rfl (CoL_d rfl CoL_nil))); exact rfl)
        | (apply Y_lit4; exact (by first | exact ety_nodes | exact ety_ints | exact ety_nodess); exact (by first | exact es_nodes | exact es_ints | exact es_nodess); exact (by first | exact zs_node | exact zs_int | exact zs_nodes); exact rfl; exact rfl; (exact CoL_d rfl (CoL_d rfl (CoL_d rfl (CoL_d rfl CoL_nil)))); exact rfl)
        | (apply Y_mkf; exact rfl)
        | (apply w1; exact rfl; exact rfl)
        | (apply k1 (hd := rfl); exact rfl; exact rfl)
        | (apply k0 (hd := rfl); exact rfl; exact rfl)
        | (apply gD; exact rfl; exact rfl; (intro hb); rotate_left; (intro hb); rotate_right)
        | (apply gN; exact rfl; exact rfl; (intro hb); rotate_left; (intro hb); rotate_right)
        | (apply g1; exact rfl; exact rfl; (intro hb); rotate_left; (intro hb); rotate_right)
        | (refine w0' ?_)
        | (apply aStore; exact rfl; exact rfl; exact rfl; exact (by first | exact tc_int | exact tc_nodes | exact tc_node | exact tc_ints | exact tc_kind | exact tc_i64 | exact tc_str | exact tc_bool); exact rfl; exact rfl; exact rfl; exact rfl)
        | (apply awp_condD; exact rfl; (intro hb); rotate_left; (intro hb); rotate_right)
        | (apply awp_condN; exact rfl; (intro hb); rotate_left; (intro hb); rotate_right)
        | (apply awp_condT; exact rfl)
        | (apply awp_condF; exact rfl)
        | (apply awp_cond; exact rfl; (intro hb); rotate_left; (intro hb); rotate_right)
        | refine awp_block ?_
        | refine awp_skip ?_
        | refine awp_ret ?_
        | refine awp_exit ?_
        | refine awp_label ?_
        | refine awp_goto ?_
        | refine awp_draw (by kernel_rfl) (by kernel_rfl) ?_
        | refine en_r ?_
        | refine en_e ?_
        | refine eb_n ?_
        | refine eb_r ?_
        | refine eb_e ?_
        | refine eb_o rfl ?_
        | refine en_g ?_
        | refine eb_g ?_
        | refine ej_n ?_
        | refine ej_r ?_
        | refine ej_e ?_
        | refine ej_g ?_
        | refine rpost_ret ?_
        | (apply res1; exact rfl)
        | (apply res1n; exact rfl)
        | (apply res1b; exact rfl; exact rfl; (first | exact rfl | (simp; done)))
        | (apply res2; exact rfl; exact rfl)
        | (apply res2n; exact rfl; exact rfl)
        | (apply res2b; exact rfl; exact rfl; (first | exact rfl | (simp; done)); exact rfl)
        | exact CoL_nil
        | refine CoL_d rfl ?_
        | refine CoL_b rfl rfl rfl ?_
        | refine CoL_n rfl ?_
        | refine CoL_v rfl ?_
      rfl
    | true =>
      obtain ⟨k, rfl⟩ := Int.eq_ofNat_of_zero_le (show 0 ≤ n by omega)
      obtain ⟨hD, he⟩ := chk_doc hc ht
      have hl60 : L.length ≤ 60 := by omega
      have ecat : makeF ⟨45, [], 0, 0⟩ [makeF ⟨42, [], 0, 0⟩ [], L] = catL L := by simp [makeF, catL]
      have enes : makeF ⟨43, [], (k : Int), 0⟩ [catL L] = ⟨43, [], (k : Int), 1⟩ :: catL L := by simp [makeF]
      have hcat := Cat_ok [makeF ⟨42, [], 0, 0⟩ [], L] (by simp) (by simp [makeF]; omega)
      rw [ecat] at hcat
      have hcl : (catL L).length = L.length + 2 := rfl
      have hnes := Nest_ok k (catL L) (by omega)
      rw [enes] at hnes
      have htc : ∀ x ∈ catL L, x.text.length ≤ 1000 := by
        intro x hm
        rcases List.mem_cons.1 hm with rfl | hm
        · exact Nat.zero_le _
        · rcases List.mem_cons.1 hm with rfl | hm
          · exact Nat.zero_le _
          · exact ht x hm
      have htn : ∀ x ∈ (⟨43, [], (k : Int), 1⟩ :: catL L : List Nd), x.text.length ≤ 1000 := by
        intro x hm
        rcases List.mem_cons.1 hm with rfl | hm
        · exact Nat.zero_le _
        · exact htc x hm
      have hcc := catL_chk hl60 hc
      have hcn := nest_chk (C := catL L) (n := k) (by omega) (by omega) (by omega) hcc
      have hla := Layout_yes (L := catL L) (by omega) htc w hcc (by omega) (by omega)
      have hlb := Layout_yes (L := ⟨43, [], (k : Int), 1⟩ :: catL L) (by simp only [List.length_cons]; omega) htn (w + k) hcn (by omega) (by omega)
      rw [show (w + (k : Int)).toNat = w.toNat + k by omega, nest_lay he hD.right] at hlb
      have hal := layF_len hcc htc w.toNat
      generalize layF (catL L) w.toNat = a at hla hlb hal
      refine pcall_of Try.func7 rfl Try.ntmps7 Try.results7 rfl ?_
      intro wb St0
      repeat' first
        | refine en_n ?_
        | refine awp_seq ?_
        | refine awp_region ?_
        | refine alex_nil ?_
        | refine w0 ?_
        | (apply Y_strT; exact rfl; exact rfl; exact rfl)
        | (apply Y_neqs; exact rfl; exact rfl)
        | (apply Y_eqlT; exact rfl; exact rfl; exact rfl)
        | (apply kU (hd := rfl); exact rfl; exact rfl)
        | (apply k1u (hd := rfl); exact rfl; exact rfl)
        | (apply k0u (hd := rfl); exact rfl; exact rfl)
        | (apply Y_lssT; exact rfl; exact rfl; first
        | assumption
        | omega)
        | (apply Y_lssF; exact rfl; exact rfl; first
        | assumption
        | omega)
        | (apply Y_leqT; exact rfl; exact rfl; first
        | assumption
        | omega)
        | (apply Y_leqF; exact rfl; exact rfl; first
        | assumption
        | omega)
        | (apply Y_gtrT; exact rfl; exact rfl; first
        | assumption
        | omega)
        | (apply Y_gtrF; exact rfl; exact rfl; first
        | assumption
        | omega)
        | (apply Y_geqT; exact rfl; exact rfl; first
        | assumption
        | omega)
        | (apply Y_geqF; exact rfl; exact rfl; first
        | assumption
        | omega)
        | (apply Y_eqlT; exact rfl; exact rfl; first
        | assumption
        | omega)
        | (apply Y_eqlF; exact rfl; exact rfl; first
        | assumption
        | omega)
        | (apply Y_neqT; exact rfl; exact rfl; first
        | assumption
        | omega)
        | (apply Y_neqF; exact rfl; exact rfl; first
        | assumption
        | omega)
        | (refine Y_call hb_awake awake_ok CoL_nil)
        | (apply Y_call (hb := hb_long) (hc := hlo))
        | (apply Y_call (hb := hb_own) (hc := how))
        | (apply Y_call (hb := hb_Check) (hc := Check_yes hL hc))
        | (refine Y_call hb_Line Line_ok CoL_nil)
        | (refine Y_call hb_Cat hcat (CoL_d rfl CoL_nil))
        | (refine Y_call hb_Nest hnes (CoL_d rfl (CoL_d rfl CoL_nil)))
        | (refine Y_call hb_Layout hla (CoL_d rfl (CoL_d rfl CoL_nil)))
        | (refine Y_call hb_Layout hlb (CoL_d rfl (CoL_d rfl CoL_nil)))
        | (apply aJ (hd := rfl); (first | exact Co_dd rfl | exact Co_bb rfl rfl rfl | exact Co_nn rfl); exact rfl; exact (by first | exact es_nodes | exact es_ints | exact es_nodess); assumption; omega; exact fun _ => rfl)
        | (apply aI (hd := rfl); (first | exact Co_dd rfl | exact Co_bb rfl rfl rfl | exact Co_nn rfl); exact rfl; exact (by first | exact es_nodes | exact es_ints | exact es_nodess); exact fun _ => rfl; rotate_left; intro v hv; rotate_right)
        | (apply aApp (hd := rfl) (hro := rfl); exact rfl; exact rfl; (first | exact Co_dd rfl | exact Co_bb rfl rfl rfl | exact Co_nn rfl); (first | exact rfl | (simp; done)); exact rfl; exact (by first | exact ety_nodes | exact ety_ints | exact ety_nodess); exact (by first | exact es_nodes | exact es_ints | exact es_nodess); exact (by first | exact zl_node | exact zl_int | exact zl_nodes); exact (by first | exact by_nodes | exact by_ints | exact by_nodess); (first | exact sz_map (fun _ => rfl) | exact sz_lit rfl))
        | (apply aBox (hd := rfl) (hro := rfl); exact rfl; exact rfl)
        | (apply aAlloc (hd := rfl) (hro := rfl); exact (by first | exact zo_node | exact zo_int))
        | apply ay (hd := rfl)
        | (apply Y_move_d; exact rfl)
        | (apply Y_assign_d; exact rfl)
        | (apply Y_field_r; exact rfl; exact (by first | exact fo_0 | exact fo_1 | exact fo_2 | exact fo_3))
        | (apply Y_load_r1; exact rfl; exact (by first | exact tc_int | exact tc_nodes | exact tc_node | exact tc_ints | exact tc_kind | exact tc_i64 | exact tc_str | exact tc_bool))
        | (apply Y_load_r; exact rfl; exact (by first | exact tc_int | exact tc_nodes | exact tc_node | exact tc_ints | exact tc_kind | exact tc_i64 | exact tc_str | exact tc_bool); exact rfl)
        | (apply Y_len_m; exact rfl; exact (by first | exact et_nodes | exact et_ints | exact et_nodess))
        | (apply Y_len_d; exact rfl; exact (by first | exact et_nodes | exact et_ints | exact et_nodess))
        | (apply Y_lss; exact rfl; exact rfl)
        | (apply Y_leq; exact rfl; exact rfl)
        | (apply Y_gtr; exact rfl; exact rfl)
        | (apply Y_geq; exact rfl; exact rfl)
        | (apply Y_eql; exact rfl; exact rfl)
        | (apply Y_neq; exact rfl; exact rfl)
        | (apply Y_add; exact rfl; exact rfl)
        | (apply Y_sub; exact rfl; exact rfl)
        | (apply Y_mul; exact rfl; exact rfl)
        | (apply Y_not; exact rfl)
        | (apply Y_pick_t; exact rfl; exact rfl)
        | (apply Y_pick_f; exact rfl; exact rfl)
        | (apply Y_extract; exact rfl; exact rfl)
        | (apply Y_max; exact rfl; exact rfl)
        | (apply Y_move_nil; exact rfl)
        | (apply Y_assign_nil; exact rfl)
        | (apply Y_move_buf; exact rfl)
        | (apply Y_assign_buf; exact rfl)
        | (apply Y_len_buf; exact rfl; exact (by first | exact et_nodes | exact et_ints | exact et_nodess))
        | (apply Y_len_nil; exact rfl; exact (by first | exact et_nodes | exact et_ints | exact et_nodess))
        | (apply Y_move_ptr; exact rfl)
        | (apply Y_assign_ptr; exact rfl)
        | (apply Y_move_clo; exact rfl)
        | (apply Y_assign_clo; exact rfl)
        | (apply Y_field_p; exact rfl; exact (by first | exact fo_0 | exact fo_1 | exact fo_2 | exact fo_3))
        | (apply Y_load_p; exact rfl; exact (by first | exact tc_int | exact tc_nodes | exact tc_node | exact tc_ints | exact tc_kind | exact tc_i64 | exact tc_str | exact tc_bool); exact rfl; exact rfl)
        | (apply Y_load_pa; exact rfl; exact (by first | exact tc_int | exact tc_nodes | exact tc_node | exact tc_ints | exact tc_kind | exact tc_i64 | exact tc_str | exact tc_bool); exact rfl; exact rfl; exact rfl)
        | (apply Y_sl; (first | exact Co_dd rfl | exact Co_bb rfl rfl rfl | exact Co_nn rfl); exact (by first | exact es_nodes | exact es_ints | exact es_nodess); exact rfl; exact rfl; exact fun _ => rfl)
        | (apply Y_sl_l; (first | exact Co_dd rfl | exact Co_bb rfl rfl rfl | exact Co_nn rfl); exact (by first | exact es_nodes | exact es_ints | exact es_nodess); exact rfl; exact fun _ => rfl)
        | (apply Y_sl_h; (first | exact Co_dd rfl | exact Co_bb rfl rfl rfl | exact Co_nn rfl); exact (by first | exact es_nodes | exact es_ints | exact es_nodess); exact rfl; exact fun _ => rfl)
        | (apply Y_lit0; exact (by first | exact ety_nodes | exact ety_ints | exact ety_nodess); exact (by first | exact es_nodes | exact es_ints | exact es_nodess); exact (by first | exact zs_node | exact zs_int | exact zs_nodes); exact rfl)
        | (apply Y_lit1; exact (by first | exact ety_nodes | exact ety_ints | exact ety_nodess); exact (by first | exact es_nodes | exact es_ints | exact es_nodess); exact (by first | exact zs_node | exact zs_int | exact zs_nodes); exact rfl; exact rfl; (first | exact CoL_d rfl CoL_nil | exact CoL_b rfl rfl rfl CoL_nil | exact CoL_n rfl CoL_nil); exact rfl)
        | (apply Y_lit2; exact (by first | exact ety_nodes | exact ety_ints | exact ety_nodess); exact (by first | exact es_nodes | exact es_ints | exact es_nodess); exact (by first | exact zs_node | exact zs_int | exact zs_nodes); exact rfl; exact rfl; (first | exact CoL_d rfl (CoL_d rfl CoL_nil) | exact CoL_b rfl rfl rfl (CoL_b rfl rfl rfl CoL_nil)); exact rfl)
        | (apply Y_lit3; exact (by first | exact ety_nodes | exact ety_ints | exact ety_nodess); exact (by first | exact es_nodes | exact es_ints | exact es_nodess); exact (by first | exact zs_node | exact zs_int | exact zs_nodes); exact rfl; exact rfl; (exact CoL_d rfl (CoL_d rfl (CoL_d rfl CoL_nil))); exact rfl)
        | (apply Y_lit4; exact (by first | exact ety_nodes | exact ety_ints | exact ety_nodess); exact (by first | exact es_nodes | exact es_ints | exact es_nodess); exact (by first | exact zs_node | exact zs_int | exact zs_nodes); exact rfl; exact rfl; (exact CoL_d rfl (CoL_d rfl (CoL_d rfl (CoL_d rfl CoL_nil)))); exact rfl)
        | (apply Y_mkf; exact rfl)
        | (apply w1; exact rfl; exact rfl)
        | (apply k1 (hd := rfl); exact rfl; exact rfl)
        | (apply k0 (hd := rfl); exact rfl; exact rfl)
        | (apply gD; exact rfl; exact rfl; (intro hb); rotate_left; (intro hb); rotate_right)
        | (apply gN; exact rfl; exact rfl; (intro hb); rotate_left; (intro hb); rotate_right)
        | (apply g1; exact rfl; exact rfl; (intro hb); rotate_left; (intro hb); rotate_right)
        | (refine w0' ?_)
        | (apply aStore; exact rfl; exact rfl; exact rfl; exact (by first | exact tc_int | exact tc_nodes | exact tc_node | exact tc_ints | exact tc_kind | exact tc_i64 | exact tc_str | exact tc_bool); exact rfl; exact rfl; exact rfl; exact rfl)
        | (apply awp_condD; exact rfl; (intro hb); rotate_left; (intro hb); rotate_right)
        | (apply awp_condN; exact rfl; (intro hb); rotate_left; (intro hb); rotate_right)
        | (apply awp_condT; exact rfl)
        | (apply awp_condF; exact rfl)
        | (apply awp_cond; exact rfl; (intro hb); rotate_left; (intro hb); rotate_right)
        | refine awp_block ?_
        | refine awp_skip ?_
        | refine awp_ret ?_
        | refine awp_exit ?_
        | refine awp_label ?_
        | refine awp_goto ?_
        | refine awp_draw (by kernel_rfl) (by kernel_rfl) ?_
        | refine en_r ?_
        | refine en_e ?_
        | refine eb_n ?_
        | refine eb_r ?_
        | refine eb_e ?_
        | refine eb_o rfl ?_
        | refine en_g ?_
        | refine eb_g ?_
        | refine ej_n ?_
        | refine ej_r ?_
        | refine ej_e ?_
        | refine ej_g ?_
        | refine rpost_ret ?_
        | (apply res1; exact rfl)
        | (apply res1n; exact rfl)
        | (apply res1b; exact rfl; exact rfl; (first | exact rfl | (simp; done)))
        | (apply res2; exact rfl; exact rfl)
        | (apply res2n; exact rfl; exact rfl)
        | (apply res2b; exact rfl; exact rfl; (first | exact rfl | (simp; done)); exact rfl)
        | exact CoL_nil
        | refine CoL_d rfl ?_
        | refine CoL_b rfl rfl rfl ?_
        | refine CoL_n rfl ?_
        | refine CoL_v rfl ?_
      · omega
      refine awp_loopF (α := Nat) (fun i => i ≤ a.length) (fun i => [(1, .d (i64 k)), (7, .d (str a)), (9, .d (str (ins k a))), (11, .d (str (ins k (a.take i)))), (12, .d (i64 (i : Int)))]) (fun _ => []) (fun i => a.length - i) 0 (Nat.zero_le _)
        (Fits_mk (Le_cons rfl (Le_cons rfl (Le_cons rfl (Le_cons rfl (Le_cons rfl Le_nil))))) Pre_nil rfl rfl) ?_
      intro i hi
      have hk40 : k ≤ 40 := by omega
      have hb0 := ins_len hk40 (a.take i)
      rw [List.length_take, Nat.min_eq_left hi] at hb0
      have h1i : ((i : Int) + 1).toNat - ((i : Int)).toNat = 1 := by omega
      repeat' first
        | refine en_n ?_
        | refine awp_seq ?_
        | refine awp_region ?_
        | refine alex_nil ?_
        | refine w0 ?_
        | (apply Y_cat_l; exact rfl; exact rfl; exact (by simp only [List.length_take, List.length_drop]; omega))
        | (apply Y_len_l; exact rfl; exact ustr)
        | (apply Y_eqs; exact rfl; exact rfl)
        | (apply Y_neqs; exact rfl; exact rfl)
        | (apply Y_cat_l; exact rfl; exact rfl; omega)
        | (apply Y_idx_l; exact rfl; exact rfl; exact ustr; (first
        | assumption
        | omega))
        | (apply Y_sub_l; exact rfl; exact rfl; exact rfl; exact ustr; (first
        | assumption
        | omega))
        | (apply aJ (hd := rfl); (first | exact Co_dd rfl | exact Co_bb rfl rfl rfl | exact Co_nn rfl); exact rfl; exact (by first | exact es_nodes | exact es_ints | exact es_nodess); assumption; omega; exact fun _ => rfl)
        | (apply aI (hd := rfl); (first | exact Co_dd rfl | exact Co_bb rfl rfl rfl | exact Co_nn rfl); exact rfl; exact (by first | exact es_nodes | exact es_ints | exact es_nodess); exact fun _ => rfl; rotate_left; intro v hv; rotate_right)
        | (apply aApp (hd := rfl) (hro := rfl); exact rfl; exact rfl; (first | exact Co_dd rfl | exact Co_bb rfl rfl rfl | exact Co_nn rfl); (first | exact rfl | (simp; done)); exact rfl; exact (by first | exact ety_nodes | exact ety_ints | exact ety_nodess); exact (by first | exact es_nodes | exact es_ints | exact es_nodess); exact (by first | exact zl_node | exact zl_int | exact zl_nodes); exact (by first | exact by_nodes | exact by_ints | exact by_nodess); (first | exact sz_map (fun _ => rfl) | exact sz_lit rfl))
        | (apply aBox (hd := rfl) (hro := rfl); exact rfl; exact rfl)
        | (apply aAlloc (hd := rfl) (hro := rfl); exact (by first | exact zo_node | exact zo_int))
        | apply ay (hd := rfl)
        | (apply Y_move_d; exact rfl)
        | (apply Y_assign_d; exact rfl)
        | (apply Y_field_r; exact rfl; exact (by first | exact fo_0 | exact fo_1 | exact fo_2 | exact fo_3))
        | (apply Y_load_r1; exact rfl; exact (by first | exact tc_int | exact tc_nodes | exact tc_node | exact tc_ints | exact tc_kind | exact tc_i64 | exact tc_str | exact tc_bool))
        | (apply Y_load_r; exact rfl; exact (by first | exact tc_int | exact tc_nodes | exact tc_node | exact tc_ints | exact tc_kind | exact tc_i64 | exact tc_str | exact tc_bool); exact rfl)
        | (apply Y_len_m; exact rfl; exact (by first | exact et_nodes | exact et_ints | exact et_nodess))
        | (apply Y_len_d; exact rfl; exact (by first | exact et_nodes | exact et_ints | exact et_nodess))
        | (apply Y_lss; exact rfl; exact rfl)
        | (apply Y_leq; exact rfl; exact rfl)
        | (apply Y_gtr; exact rfl; exact rfl)
        | (apply Y_geq; exact rfl; exact rfl)
        | (apply Y_eql; exact rfl; exact rfl)
        | (apply Y_neq; exact rfl; exact rfl)
        | (apply Y_add; exact rfl; exact rfl)
        | (apply Y_sub; exact rfl; exact rfl)
        | (apply Y_mul; exact rfl; exact rfl)
        | (apply Y_not; exact rfl)
        | (apply Y_pick_t; exact rfl; exact rfl)
        | (apply Y_pick_f; exact rfl; exact rfl)
        | (apply Y_extract; exact rfl; exact rfl)
        | (apply Y_max; exact rfl; exact rfl)
        | (apply Y_move_nil; exact rfl)
        | (apply Y_assign_nil; exact rfl)
        | (apply Y_move_buf; exact rfl)
        | (apply Y_assign_buf; exact rfl)
        | (apply Y_len_buf; exact rfl; exact (by first | exact et_nodes | exact et_ints | exact et_nodess))
        | (apply Y_len_nil; exact rfl; exact (by first | exact et_nodes | exact et_ints | exact et_nodess))
        | (apply Y_move_ptr; exact rfl)
        | (apply Y_assign_ptr; exact rfl)
        | (apply Y_move_clo; exact rfl)
        | (apply Y_assign_clo; exact rfl)
        | (apply Y_field_p; exact rfl; exact (by first | exact fo_0 | exact fo_1 | exact fo_2 | exact fo_3))
        | (apply Y_load_p; exact rfl; exact (by first | exact tc_int | exact tc_nodes | exact tc_node | exact tc_ints | exact tc_kind | exact tc_i64 | exact tc_str | exact tc_bool); exact rfl; exact rfl)
        | (apply Y_load_pa; exact rfl; exact (by first | exact tc_int | exact tc_nodes | exact tc_node | exact tc_ints | exact tc_kind | exact tc_i64 | exact tc_str | exact tc_bool); exact rfl; exact rfl; exact rfl)
        | (apply Y_sl; (first | exact Co_dd rfl | exact Co_bb rfl rfl rfl | exact Co_nn rfl); exact (by first | exact es_nodes | exact es_ints | exact es_nodess); exact rfl; exact rfl; exact fun _ => rfl)
        | (apply Y_sl_l; (first | exact Co_dd rfl | exact Co_bb rfl rfl rfl | exact Co_nn rfl); exact (by first | exact es_nodes | exact es_ints | exact es_nodess); exact rfl; exact fun _ => rfl)
        | (apply Y_sl_h; (first | exact Co_dd rfl | exact Co_bb rfl rfl rfl | exact Co_nn rfl); exact (by first | exact es_nodes | exact es_ints | exact es_nodess); exact rfl; exact fun _ => rfl)
        | (apply Y_lit0; exact (by first | exact ety_nodes | exact ety_ints | exact ety_nodess); exact (by first | exact es_nodes | exact es_ints | exact es_nodess); exact (by first | exact zs_node | exact zs_int | exact zs_nodes); exact rfl)
        | (apply Y_lit1; exact (by first | exact ety_nodes | exact ety_ints | exact ety_nodess); exact (by first | exact es_nodes | exact es_ints | exact es_nodess); exact (by first | exact zs_node | exact zs_int | exact zs_nodes); exact rfl; exact rfl; (first | exact CoL_d rfl CoL_nil | exact CoL_b rfl rfl rfl CoL_nil | exact CoL_n rfl CoL_nil); exact rfl)
        | (apply Y_lit2; exact (by first | exact ety_nodes | exact ety_ints | exact ety_nodess); exact (by first | exact es_nodes | exact es_ints | exact es_nodess); exact (by first | exact zs_node | exact zs_int | exact zs_nodes); exact rfl; exact rfl; (first | exact CoL_d rfl (CoL_d rfl CoL_nil) | exact CoL_b rfl rfl rfl (CoL_b rfl rfl rfl CoL_nil)); exact rfl)
        | (apply Y_lit3; exact (by first | exact ety_nodes | exact ety_ints | exact ety_nodess); exact (by first | exact es_nodes | exact es_ints | exact es_nodess); exact (by first | exact zs_node | exact zs_int | exact zs_nodes); exact rfl; exact rfl; (exact CoL_d rfl (CoL_d rfl (CoL_d rfl CoL_nil))); exact rfl)
        | (apply Y_lit4; exact (by first | exact ety_nodes | exact ety_ints | exact ety_nodess); exact (by first | exact es_nodes | exact es_ints | exact es_nodess); exact (by first | exact zs_node | exact zs_int | exact zs_nodes); exact rfl; exact rfl; (exact CoL_d rfl (CoL_d rfl (CoL_d rfl (CoL_d rfl CoL_nil)))); exact rfl)
        | (apply Y_mkf; exact rfl)
        | (apply w1; exact rfl; exact rfl)
        | (apply k1 (hd := rfl); exact rfl; exact rfl)
        | (apply k0 (hd := rfl); exact rfl; exact rfl)
        | (apply gD; exact rfl; exact rfl; (intro hb); rotate_left; (intro hb); rotate_right)
        | (apply gN; exact rfl; exact rfl; (intro hb); rotate_left; (intro hb); rotate_right)
        | (apply g1; exact rfl; exact rfl; (intro hb); rotate_left; (intro hb); rotate_right)
        | (refine w0' ?_)
        | (apply aStore; exact rfl; exact rfl; exact rfl; exact (by first | exact tc_int | exact tc_nodes | exact tc_node | exact tc_ints | exact tc_kind | exact tc_i64 | exact tc_str | exact tc_bool); exact rfl; exact rfl; exact rfl; exact rfl)
        | (apply awp_condD; exact rfl; (intro hb); rotate_left; (intro hb); rotate_right)
        | (apply awp_condN; exact rfl; (intro hb); rotate_left; (intro hb); rotate_right)
        | (apply awp_condT; exact rfl)
        | (apply awp_condF; exact rfl)
        | (apply awp_cond; exact rfl; (intro hb); rotate_left; (intro hb); rotate_right)
        | refine awp_block ?_
        | refine awp_skip ?_
        | refine awp_ret ?_
        | refine awp_exit ?_
        | refine awp_label ?_
        | refine awp_goto ?_
        | refine awp_draw (by kernel_rfl) (by kernel_rfl) ?_
        | refine en_r ?_
        | refine en_e ?_
        | refine eb_n ?_
        | refine eb_r ?_
        | refine eb_e ?_
        | refine eb_o rfl ?_
        | refine en_g ?_
        | refine eb_g ?_
        | refine ej_n ?_
        | refine ej_r ?_
        | refine ej_e ?_
        | refine ej_g ?_
        | refine rpost_ret ?_
        | (apply res1; exact rfl)
        | (apply res1n; exact rfl)
        | (apply res1b; exact rfl; exact rfl; (first | exact rfl | (simp; done)))
        | (apply res2; exact rfl; exact rfl)
        | (apply res2n; exact rfl; exact rfl)
        | (apply res2b; exact rfl; exact rfl; (first | exact rfl | (simp; done)); exact rfl)
        | exact CoL_nil
        | refine CoL_d rfl ?_
        | refine CoL_b rfl rfl rfl ?_
        | refine CoL_n rfl ?_
        | refine CoL_v rfl ?_
      · omega
      · have hlt : i < a.length := by omega
        have hc10 : a.getD i 0 = 10 := (u8_nat _ 10 (by omega)).1 hb
        refine awp_loopF (α := Nat) (fun j => j ≤ k) (fun j => [(1, .d (i64 k)), (7, .d (str a)), (9, .d (str (ins k a))), (11, .d (str (ins k (a.take i) ++ 10 :: List.replicate j 32))), (12, .d (i64 (i : Int))), (13, .d (i64 (j : Int)))]) (fun _ => []) (fun j => k - j) 0 (Nat.zero_le _)
          (Fits_mk (Le_cons rfl (Le_cons rfl (Le_cons rfl (Le_d rfl (by rw [h1i, Int.toNat_natCast, sub_one hlt, hc10]; rfl) (Le_cons rfl (Le_cons rfl Le_nil)))))) Pre_nil rfl rfl) ?_
        intro j hj
        repeat' first
          | refine en_n ?_
          | refine awp_seq ?_
          | refine awp_region ?_
          | refine alex_nil ?_
          | refine w0 ?_
          | (apply Y_cat_l; exact rfl; exact rfl; exact (by simp only [List.length_append, List.length_cons, List.length_replicate, List.length_nil]; omega))
          | (apply Y_len_l; exact rfl; exact ustr)
          | (apply Y_eqs; exact rfl; exact rfl)
          | (apply Y_neqs; exact rfl; exact rfl)
          | (apply Y_cat_l; exact rfl; exact rfl; omega)
          | (apply Y_idx_l; exact rfl; exact rfl; exact ustr; (first
          | assumption
          | omega))
          | (apply Y_sub_l; exact rfl; exact rfl; exact rfl; exact ustr; (first
          | assumption
          | omega))
          | (apply aJ (hd := rfl); (first | exact Co_dd rfl | exact Co_bb rfl rfl rfl | exact Co_nn rfl); exact rfl; exact (by first | exact es_nodes | exact es_ints | exact es_nodess); assumption; omega; exact fun _ => rfl)
          | (apply aI (hd := rfl); (first | exact Co_dd rfl | exact Co_bb rfl rfl rfl | exact Co_nn rfl); exact rfl; exact (by first | exact es_nodes | exact es_ints | exact es_nodess); exact fun _ => rfl; rotate_left; intro v hv; rotate_right)
          | (apply aApp (hd := rfl) (hro := rfl); exact rfl; exact rfl; (first | exact Co_dd rfl | exact Co_bb rfl rfl rfl | exact Co_nn rfl); (first | exact rfl | (simp; done)); exact rfl; exact (by first | exact ety_nodes | exact ety_ints | exact ety_nodess); exact (by first | exact es_nodes | exact es_ints | exact es_nodess); exact (by first | exact zl_node | exact zl_int | exact zl_nodes); exact (by first | exact by_nodes | exact by_ints | exact by_nodess); (first | exact sz_map (fun _ => rfl) | exact sz_lit rfl))
          | (apply aBox (hd := rfl) (hro := rfl); exact rfl; exact rfl)
          | (apply aAlloc (hd := rfl) (hro := rfl); exact (by first | exact zo_node | exact zo_int))
          | apply ay (hd := rfl)
          | (apply Y_move_d; exact rfl)
          | (apply Y_assign_d; exact rfl)
          | (apply Y_field_r; exact rfl; exact (by first | exact fo_0 | exact fo_1 | exact fo_2 | exact fo_3))
          | (apply Y_load_r1; exact rfl; exact (by first | exact tc_int | exact tc_nodes | exact tc_node | exact tc_ints | exact tc_kind | exact tc_i64 | exact tc_str | exact tc_bool))
          | (apply Y_load_r; exact rfl; exact (by first | exact tc_int | exact tc_nodes | exact tc_node | exact tc_ints | exact tc_kind | exact tc_i64 | exact tc_str | exact tc_bool); exact rfl)
          | (apply Y_len_m; exact rfl; exact (by first | exact et_nodes | exact et_ints | exact et_nodess))
          | (apply Y_len_d; exact rfl; exact (by first | exact et_nodes | exact et_ints | exact et_nodess))
          | (apply Y_lss; exact rfl; exact rfl)
          | (apply Y_leq; exact rfl; exact rfl)
          | (apply Y_gtr; exact rfl; exact rfl)
          | (apply Y_geq; exact rfl; exact rfl)
          | (apply Y_eql; exact rfl; exact rfl)
          | (apply Y_neq; exact rfl; exact rfl)
          | (apply Y_add; exact rfl; exact rfl)
          | (apply Y_sub; exact rfl; exact rfl)
          | (apply Y_mul; exact rfl; exact rfl)
          | (apply Y_not; exact rfl)
          | (apply Y_pick_t; exact rfl; exact rfl)
          | (apply Y_pick_f; exact rfl; exact rfl)
          | (apply Y_extract; exact rfl; exact rfl)
          | (apply Y_max; exact rfl; exact rfl)
          | (apply Y_move_nil; exact rfl)
          | (apply Y_assign_nil; exact rfl)
          | (apply Y_move_buf; exact rfl)
          | (apply Y_assign_buf; exact rfl)
          | (apply Y_len_buf; exact rfl; exact (by first | exact et_nodes | exact et_ints | exact et_nodess))
          | (apply Y_len_nil; exact rfl; exact (by first | exact et_nodes | exact et_ints | exact et_nodess))
          | (apply Y_move_ptr; exact rfl)
          | (apply Y_assign_ptr; exact rfl)
          | (apply Y_move_clo; exact rfl)
          | (apply Y_assign_clo; exact rfl)
          | (apply Y_field_p; exact rfl; exact (by first | exact fo_0 | exact fo_1 | exact fo_2 | exact fo_3))
          | (apply Y_load_p; exact rfl; exact (by first | exact tc_int | exact tc_nodes | exact tc_node | exact tc_ints | exact tc_kind | exact tc_i64 | exact tc_str | exact tc_bool); exact rfl; exact rfl)
          | (apply Y_load_pa; exact rfl; exact (by first | exact tc_int | exact tc_nodes | exact tc_node | exact tc_ints | exact tc_kind | exact tc_i64 | exact tc_str | exact tc_bool); exact rfl; exact rfl; exact rfl)
          | (apply Y_sl; (first | exact Co_dd rfl | exact Co_bb rfl rfl rfl | exact Co_nn rfl); exact (by first | exact es_nodes | exact es_ints | exact es_nodess); exact rfl; exact rfl; exact fun _ => rfl)
          | (apply Y_sl_l; (first | exact Co_dd rfl | exact Co_bb rfl rfl rfl | exact Co_nn rfl); exact (by first | exact es_nodes | exact es_ints | exact es_nodess); exact rfl; exact fun _ => rfl)
          | (apply Y_sl_h; (first | exact Co_dd rfl | exact Co_bb rfl rfl rfl | exact Co_nn rfl); exact (by first | exact es_nodes | exact es_ints | exact es_nodess); exact rfl; exact fun _ => rfl)
          | (apply Y_lit0; exact (by first | exact ety_nodes | exact ety_ints | exact ety_nodess); exact (by first | exact es_nodes | exact es_ints | exact es_nodess); exact (by first | exact zs_node | exact zs_int | exact zs_nodes); exact rfl)
          | (apply Y_lit1; exact (by first | exact ety_nodes | exact ety_ints | exact ety_nodess); exact (by first | exact es_nodes | exact es_ints | exact es_nodess); exact (by first | exact zs_node | exact zs_int | exact zs_nodes); exact rfl; exact rfl; (first | exact CoL_d rfl CoL_nil | exact CoL_b rfl rfl rfl CoL_nil | exact CoL_n rfl CoL_nil); exact rfl)
          | (apply Y_lit2; exact (by first | exact ety_nodes | exact ety_ints | exact ety_nodess); exact (by first | exact es_nodes | exact es_ints | exact es_nodess); exact (by first | exact zs_node | exact zs_int | exact zs_nodes); exact rfl; exact rfl; (first | exact CoL_d rfl (CoL_d rfl CoL_nil) | exact CoL_b rfl rfl rfl (CoL_b rfl rfl rfl CoL_nil)); exact rfl)
          | (apply Y_lit3; exact (by first | exact ety_nodes | exact ety_ints | exact ety_nodess); exact (by first | exact es_nodes | exact es_ints | exact es_nodess); exact (by first | exact zs_node | exact zs_int | exact zs_nodes); exact rfl; exact rfl; (exact CoL_d rfl (CoL_d rfl (CoL_d rfl CoL_nil))); exact rfl)
          | (apply Y_lit4; exact (by first | exact ety_nodes | exact ety_ints | exact ety_nodess); exact (by first | exact es_nodes | exact es_ints | exact es_nodess); exact (by first | exact zs_node | exact zs_int | exact zs_nodes); exact rfl; exact rfl; (exact CoL_d rfl (CoL_d rfl (CoL_d rfl (CoL_d rfl CoL_nil)))); exact rfl)
          | (apply Y_mkf; exact rfl)
          | (apply w1; exact rfl; exact rfl)
          | (apply k1 (hd := rfl); exact rfl; exact rfl)
          | (apply k0 (hd := rfl); exact rfl; exact rfl)
          | (apply gD; exact rfl; exact rfl; (intro hb); rotate_left; (intro hb); rotate_right)
          | (apply gN; exact rfl; exact rfl; (intro hb); rotate_left; (intro hb); rotate_right)
          | (apply g1; exact rfl; exact rfl; (intro hb); rotate_left; (intro hb); rotate_right)
          | (refine w0' ?_)
          | (apply aStore; exact rfl; exact rfl; exact rfl; exact (by first | exact tc_int | exact tc_nodes | exact tc_node | exact tc_ints | exact tc_kind | exact tc_i64 | exact tc_str | exact tc_bool); exact rfl; exact rfl; exact rfl; exact rfl)
          | (apply awp_condD; exact rfl; (intro hb); rotate_left; (intro hb); rotate_right)
          | (apply awp_condN; exact rfl; (intro hb); rotate_left; (intro hb); rotate_right)
          | (apply awp_condT; exact rfl)
          | (apply awp_condF; exact rfl)
          | (apply awp_cond; exact rfl; (intro hb); rotate_left; (intro hb); rotate_right)
          | refine awp_block ?_
          | refine awp_skip ?_
          | refine awp_ret ?_
          | refine awp_exit ?_
          | refine awp_label ?_
          | refine awp_goto ?_
          | refine awp_draw (by kernel_rfl) (by kernel_rfl) ?_
          | refine en_r ?_
          | refine en_e ?_
          | refine eb_n ?_
          | refine eb_r ?_
          | refine eb_e ?_
          | refine eb_o rfl ?_
          | refine en_g ?_
          | refine eb_g ?_
          | refine ej_n ?_
          | refine ej_r ?_
          | refine ej_e ?_
          | refine ej_g ?_
          | refine rpost_ret ?_
          | (apply res1; exact rfl)
          | (apply res1n; exact rfl)
          | (apply res1b; exact rfl; exact rfl; (first | exact rfl | (simp; done)))
          | (apply res2; exact rfl; exact rfl)
          | (apply res2n; exact rfl; exact rfl)
          | (apply res2b; exact rfl; exact rfl; (first | exact rfl | (simp; done)); exact rfl)
          | exact CoL_nil
          | refine CoL_d rfl ?_
          | refine CoL_b rfl rfl rfl ?_
          | refine CoL_n rfl ?_
          | refine CoL_v rfl ?_
        · omega
        · refine ⟨j + 1, by omega, by omega, Fits_mk (Le_cons rfl (Le_cons rfl (Le_cons rfl (Le_d rfl ?_ (Le_cons rfl (Le_cons rfl Le_nil)))))) Pre_nil rfl rfl⟩
          rw [List.replicate_succ', List.append_assoc, List.cons_append]
        · omega
        · refine ⟨i + 1, by omega, by omega, Fits_mk (Le_cons rfl (Le_cons rfl (Le_cons rfl (Le_d rfl ?_ (Le_cons rfl Le_nil))))) Pre_nil rfl rfl⟩
          rw [ins_succ hlt, if_pos hc10, show j = k by omega]
      · omega
      · have hlt : i < a.length := by omega
        have hc10 : ¬ a.getD i 0 = 10 := fun h => hb ((u8_nat _ 10 (by omega)).2 h)
        refine ⟨i + 1, by omega, by omega, Fits_mk (Le_cons rfl (Le_cons rfl (Le_cons rfl (Le_d rfl ?_ (Le_cons rfl Le_nil))))) Pre_nil rfl rfl⟩
        rw [ins_succ hlt, if_neg hc10, h1i, Int.toNat_natCast, sub_one hlt]
      · rw [List.take_of_length_le (show a.length ≤ i by omega)]
        exact bl_eq (decide_eq_true rfl)
end Go.Proofs.Ytcjakkbanlgafaa
