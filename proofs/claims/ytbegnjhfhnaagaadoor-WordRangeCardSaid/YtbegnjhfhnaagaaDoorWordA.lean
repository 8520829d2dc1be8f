/- The word statements: sums, differences, products. -/
import Derived.Test.YtbegnjhfhnaagaaDoorWordF
namespace Go.Proofs.YtbegnjhfhnaagaaDoor
open Go.Sx
attribute [local irreducible] Ylds astep alex alexE alexD awp PCall FCall RCall athen ablock ajump rpost fpost

theorem i64_eq {a b : Int} (h : a = b) : D.val (.int .i64 a) = i64 b := by rw [h]
theorem u64_eq {a b : Int} (h : a = b) : D.val (.int .u64 a) = u64 b := by rw [h]
theorem tw1 : (2 : Int) ^ min (Int.toNat 1) IntKind.u64.bits = 2 := by decide
theorem tw2 : (2 : Int) ^ min (Int.toNat 1) IntKind.i64.bits = 2 := by decide

theorem wWrap_ok (n : Int) : PCall Tryd.prog 11 [i64 n] (i64 (W n)) := by
  refine pcall_of Tryd.func11 rfl Tryd.ntmps11 Tryd.results11 rfl ?_
  intro wb St0
  repeat' first
    | refine en_n ?_
    | refine awp_seq ?_
    | refine awp_region ?_
    | refine alex_nil ?_
    | refine w0 ?_
    | (apply Y_conv; exact rfl; (first
    | exact si64
    | exact su64
    | exact su8
    | exact si32); (first
    | exact ui64
    | exact uu64
    | exact uu8
    | exact ui32))
    | (apply Y_shl; exact rfl; exact rfl; exact (by decide))
    | (apply Y_shr; exact rfl; exact rfl; exact (by decide))
    | (apply Y_addw (k := .u64); exact rfl; exact rfl)
    | (apply Y_subw (k := .u64); exact rfl; exact rfl)
    | (apply Y_mulw (k := .u64); exact rfl; exact rfl)
    | (apply Y_neg; exact rfl)
    | (apply Y_neqb; exact rfl; exact rfl; exact ubool)
    | (apply Y_eqlb; exact rfl; exact rfl; exact ubool)
    | (apply aJ (hd := rfl); (first | exact Co_dd rfl | exact Co_bb rfl rfl rfl | exact Co_nn rfl); exact rfl; exact (by first | exact es_i64s | exact es_u8s); assumption; omega; exact fun _ => rfl)
    | (apply aI (hd := rfl); (first | exact Co_dd rfl | exact Co_bb rfl rfl rfl | exact Co_nn rfl); exact rfl; exact (by first | exact es_i64s | exact es_u8s); exact fun _ => rfl; rotate_left; intro v hv; rotate_right)
    | (apply aApp (hd := rfl) (hro := rfl); exact rfl; exact rfl; (first | exact Co_dd rfl | exact Co_bb rfl rfl rfl | exact Co_nn rfl); (first | exact rfl | (simp; done)); exact rfl; exact (by first | exact ety_i64s | exact ety_u8s); exact (by first | exact es_i64s | exact es_u8s); exact (by first | exact zl_i64 | exact zl_u8); exact (by first | exact by_i64s | exact by_u8s); (first | exact sz_map (fun _ => rfl) | exact sz_lit rfl))
    | (apply aBox (hd := rfl) (hro := rfl); exact rfl; exact rfl)
    | (apply aAlloc (hd := rfl) (hro := rfl); exact (by first | exact zo_i64))
    | apply ay (hd := rfl)
    | (apply Y_move_d; exact rfl)
    | (apply Y_assign_d; exact rfl)
    | (apply Y_field_r; exact rfl; exact (by first | exact rfl))
    | (apply Y_load_r1; exact rfl; exact (by first | exact tc_i64))
    | (apply Y_load_r; exact rfl; exact (by first | exact tc_i64); exact rfl)
    | (apply Y_len_m; exact rfl; exact (by first | exact et_i64s | exact et_u8s))
    | (apply Y_len_d; exact rfl; exact (by first | exact et_i64s | exact et_u8s))
    | (apply Y_lss; exact rfl; exact rfl)
    | (apply Y_leq; exact rfl; exact rfl)
    | (apply Y_gtr; exact rfl; exact rfl)
    | (apply Y_geq; exact rfl; exact rfl)
    | (apply Y_eql; exact rfl; exact rfl)
    | (apply Y_neq; exact rfl; exact rfl)
    | (apply Y_add; exact rfl; exact rfl)
    | (apply Y_sub; exact rfl; exact rfl)
    | (apply Y_mul; exact rfl; exact rfl)
    | (apply Y_not; exact rfl)
    | (apply Y_pick_t; exact rfl; exact rfl)
    | (apply Y_pick_f; exact rfl; exact rfl)
    | (apply Y_extract; exact rfl; exact rfl)
    | (apply Y_max; exact rfl; exact rfl)
    | (apply Y_move_nil; exact rfl)
    | (apply Y_assign_nil; exact rfl)
    | (apply Y_move_buf; exact rfl)
    | (apply Y_assign_buf; exact rfl)
    | (apply Y_len_buf; exact rfl; exact (by first | exact et_i64s | exact et_u8s))
    | (apply Y_len_nil; exact rfl; exact (by first | exact et_i64s | exact et_u8s))
    | (apply Y_move_ptr; exact rfl)
    | (apply Y_assign_ptr; exact rfl)
    | (apply Y_move_clo; exact rfl)
    | (apply Y_assign_clo; exact rfl)
    | (apply Y_field_p; exact rfl; exact (by first | exact rfl))
    | (apply Y_load_p; exact rfl; exact (by first | exact tc_i64); exact rfl; exact rfl)
    | (apply Y_load_pa; exact rfl; exact (by first | exact tc_i64); exact rfl; exact rfl; exact rfl)
    | (apply Y_sl; (first | exact Co_dd rfl | exact Co_bb rfl rfl rfl | exact Co_nn rfl); exact (by first | exact es_i64s | exact es_u8s); exact rfl; exact rfl; exact fun _ => rfl)
    | (apply Y_sl_l; (first | exact Co_dd rfl | exact Co_bb rfl rfl rfl | exact Co_nn rfl); exact (by first | exact es_i64s | exact es_u8s); exact rfl; exact fun _ => rfl)
    | (apply Y_sl_h; (first | exact Co_dd rfl | exact Co_bb rfl rfl rfl | exact Co_nn rfl); exact (by first | exact es_i64s | exact es_u8s); exact rfl; exact fun _ => rfl)
    | (apply Y_lit0; exact (by first | exact ety_i64s | exact ety_u8s); exact (by first | exact es_i64s | exact es_u8s); exact (by first | exact zs_i64 | exact zs_u8); exact rfl)
    | (apply Y_lit1; exact (by first | exact ety_i64s | exact ety_u8s); exact (by first | exact es_i64s | exact es_u8s); exact (by first | exact zs_i64 | exact zs_u8); exact rfl; exact rfl; (first | exact CoL_d rfl CoL_nil | exact CoL_b rfl rfl rfl CoL_nil | exact CoL_n rfl CoL_nil); exact rfl)
    | (apply Y_lit2; exact (by first | exact ety_i64s | exact ety_u8s); exact (by first | exact es_i64s | exact es_u8s); exact (by first | exact zs_i64 | exact zs_u8); exact rfl; exact rfl; (first | exact CoL_d rfl (CoL_d rfl CoL_nil) | exact CoL_b rfl rfl rfl (CoL_b rfl rfl rfl CoL_nil)); exact rfl)
    | (apply Y_lit3; exact (by first | exact ety_i64s | exact ety_u8s); exact (by first | exact es_i64s | exact es_u8s); exact (by first | exact zs_i64 | exact zs_u8); exact rfl; exact rfl; (exact CoL_d rfl (CoL_d rfl (CoL_d rfl CoL_nil))); exact rfl)
    | (apply Y_lit4; exact (by first | exact ety_i64s | exact ety_u8s); exact (by first | exact es_i64s | exact es_u8s); exact (by first | exact zs_i64 | exact zs_u8); exact rfl; exact rfl; (exact CoL_d rfl (CoL_d rfl (CoL_d rfl (CoL_d rfl CoL_nil)))); exact rfl)
    | (apply Y_mkf; exact rfl)
    | (apply w1; exact rfl; exact rfl)
    | (apply k1 (hd := rfl); exact rfl; exact rfl)
    | (apply k0 (hd := rfl); exact rfl; exact rfl)
    | (apply gD; exact rfl; exact rfl; (intro hb); rotate_left; (intro hb); rotate_right)
    | (apply gN; exact rfl; exact rfl; (intro hb); rotate_left; (intro hb); rotate_right)
    | (apply g1; exact rfl; exact rfl; (intro hb); rotate_left; (intro hb); rotate_right)
    | (refine w0' ?_)
    | (apply aStore; exact rfl; exact rfl; exact rfl; exact (by first | exact tc_i64); exact rfl; exact rfl; exact rfl; exact rfl)
    | (apply awp_condD; exact rfl; (intro hb); rotate_left; (intro hb); rotate_right)
    | (apply awp_condN; exact rfl; (intro hb); rotate_left; (intro hb); rotate_right)
    | (apply awp_condT; exact rfl)
    | (apply awp_condF; exact rfl)
    | (apply awp_cond; exact rfl; (intro hb); rotate_left; (intro hb); rotate_right)
    | refine awp_block ?_
    | refine awp_skip ?_
    | refine awp_ret ?_
    | refine awp_exit ?_
    | refine awp_label ?_
    | refine awp_goto ?_
    | refine awp_draw (by kernel_rfl) (by kernel_rfl) ?_
    | refine en_r ?_
    | refine en_e ?_
    | refine eb_n ?_
    | refine eb_r ?_
    | refine eb_e ?_
    | refine eb_o rfl ?_
    | refine en_g ?_
    | refine eb_g ?_
    | refine ej_n ?_
    | refine ej_r ?_
    | refine ej_e ?_
    | refine ej_g ?_
    | refine rpost_ret ?_
    | (apply res1; exact rfl)
    | (apply res1n; exact rfl)
    | (apply res1b; exact rfl; exact rfl; (first | exact rfl | (simp; done)))
    | (apply res2; exact rfl; exact rfl)
    | (apply res2n; exact rfl; exact rfl)
    | (apply res2b; exact rfl; exact rfl; (first | exact rfl | (simp; done)); exact rfl)
    | exact CoL_nil
    | refine CoL_d rfl ?_
    | refine CoL_b rfl rfl rfl ?_
    | refine CoL_n rfl ?_
    | refine CoL_v rfl ?_
  refine i64_eq ?_
  rw [tw1, tw2, Int.fdiv_eq_ediv_of_nonneg _ (by decide), wrap_u64, wrap_u64, wrap_i64, W]
  omega

theorem back_ok (n : Int) (h : 0 ≤ n) : PCall Tryd.prog 28 [u64 n] (i64 (W n)) := by
  refine pcall_of Tryd.func28 rfl Tryd.ntmps28 Tryd.results28 rfl ?_
  intro wb St0
  have e : n.tmod 9223372036854775808 = n % 9223372036854775808 := Int.tmod_eq_emod_of_nonneg h
  repeat' first
    | refine en_n ?_
    | refine awp_seq ?_
    | refine awp_region ?_
    | refine alex_nil ?_
    | refine w0 ?_
    | (apply Y_conv; exact rfl; (first
    | exact si64
    | exact su64
    | exact su8
    | exact si32); (first
    | exact ui64
    | exact uu64
    | exact uu8
    | exact ui32))
    | (apply Y_shl; exact rfl; exact rfl; exact (by decide))
    | (apply Y_shr; exact rfl; exact rfl; exact (by decide))
    | (apply Y_addw (k := .u64); exact rfl; exact rfl)
    | (apply Y_subw (k := .u64); exact rfl; exact rfl)
    | (apply Y_mulw (k := .u64); exact rfl; exact rfl)
    | (apply Y_neg; exact rfl)
    | (apply Y_neqb; exact rfl; exact rfl; exact ubool)
    | (apply Y_eqlb; exact rfl; exact rfl; exact ubool)
    | (apply Y_addw (k := .i64); exact rfl; exact rfl)
    | (apply Y_subw (k := .i64); exact rfl; exact rfl)
    | (apply Y_mulw (k := .i64); exact rfl; exact rfl)
    | (apply Y_rem; exact rfl; exact rfl; exact (by decide))
    | (apply aJ (hd := rfl); (first | exact Co_dd rfl | exact Co_bb rfl rfl rfl | exact Co_nn rfl); exact rfl; exact (by first | exact es_i64s | exact es_u8s); assumption; omega; exact fun _ => rfl)
    | (apply aI (hd := rfl); (first | exact Co_dd rfl | exact Co_bb rfl rfl rfl | exact Co_nn rfl); exact rfl; exact (by first | exact es_i64s | exact es_u8s); exact fun _ => rfl; rotate_left; intro v hv; rotate_right)
    | (apply aApp (hd := rfl) (hro := rfl); exact rfl; exact rfl; (first | exact Co_dd rfl | exact Co_bb rfl rfl rfl | exact Co_nn rfl); (first | exact rfl | (simp; done)); exact rfl; exact (by first | exact ety_i64s | exact ety_u8s); exact (by first | exact es_i64s | exact es_u8s); exact (by first | exact zl_i64 | exact zl_u8); exact (by first | exact by_i64s | exact by_u8s); (first | exact sz_map (fun _ => rfl) | exact sz_lit rfl))
    | (apply aBox (hd := rfl) (hro := rfl); exact rfl; exact rfl)
    | (apply aAlloc (hd := rfl) (hro := rfl); exact (by first | exact zo_i64))
    | apply ay (hd := rfl)
    | (apply Y_move_d; exact rfl)
    | (apply Y_assign_d; exact rfl)
    | (apply Y_field_r; exact rfl; exact (by first | exact rfl))
    | (apply Y_load_r1; exact rfl; exact (by first | exact tc_i64))
    | (apply Y_load_r; exact rfl; exact (by first | exact tc_i64); exact rfl)
    | (apply Y_len_m; exact rfl; exact (by first | exact et_i64s | exact et_u8s))
    | (apply Y_len_d; exact rfl; exact (by first | exact et_i64s | exact et_u8s))
    | (apply Y_lss; exact rfl; exact rfl)
    | (apply Y_leq; exact rfl; exact rfl)
    | (apply Y_gtr; exact rfl; exact rfl)
    | (apply Y_geq; exact rfl; exact rfl)
    | (apply Y_eql; exact rfl; exact rfl)
    | (apply Y_neq; exact rfl; exact rfl)
    | (apply Y_add; exact rfl; exact rfl)
    | (apply Y_sub; exact rfl; exact rfl)
    | (apply Y_mul; exact rfl; exact rfl)
    | (apply Y_not; exact rfl)
    | (apply Y_pick_t; exact rfl; exact rfl)
    | (apply Y_pick_f; exact rfl; exact rfl)
    | (apply Y_extract; exact rfl; exact rfl)
    | (apply Y_max; exact rfl; exact rfl)
    | (apply Y_move_nil; exact rfl)
    | (apply Y_assign_nil; exact rfl)
    | (apply Y_move_buf; exact rfl)
    | (apply Y_assign_buf; exact rfl)
    | (apply Y_len_buf; exact rfl; exact (by first | exact et_i64s | exact et_u8s))
    | (apply Y_len_nil; exact rfl; exact (by first | exact et_i64s | exact et_u8s))
    | (apply Y_move_ptr; exact rfl)
    | (apply Y_assign_ptr; exact rfl)
    | (apply Y_move_clo; exact rfl)
    | (apply Y_assign_clo; exact rfl)
    | (apply Y_field_p; exact rfl; exact (by first | exact rfl))
    | (apply Y_load_p; exact rfl; exact (by first | exact tc_i64); exact rfl; exact rfl)
    | (apply Y_load_pa; exact rfl; exact (by first | exact tc_i64); exact rfl; exact rfl; exact rfl)
    | (apply Y_sl; (first | exact Co_dd rfl | exact Co_bb rfl rfl rfl | exact Co_nn rfl); exact (by first | exact es_i64s | exact es_u8s); exact rfl; exact rfl; exact fun _ => rfl)
    | (apply Y_sl_l; (first | exact Co_dd rfl | exact Co_bb rfl rfl rfl | exact Co_nn rfl); exact (by first | exact es_i64s | exact es_u8s); exact rfl; exact fun _ => rfl)
    | (apply Y_sl_h; (first | exact Co_dd rfl | exact Co_bb rfl rfl rfl | exact Co_nn rfl); exact (by first | exact es_i64s | exact es_u8s); exact rfl; exact fun _ => rfl)
    | (apply Y_lit0; exact (by first | exact ety_i64s | exact ety_u8s); exact (by first | exact es_i64s | exact es_u8s); exact (by first | exact zs_i64 | exact zs_u8); exact rfl)
    | (apply Y_lit1; exact (by first | exact ety_i64s | exact ety_u8s); exact (by first | exact es_i64s | exact es_u8s); exact (by first | exact zs_i64 | exact zs_u8); exact rfl; exact rfl; (first | exact CoL_d rfl CoL_nil | exact CoL_b rfl rfl rfl CoL_nil | exact CoL_n rfl CoL_nil); exact rfl)
    | (apply Y_lit2; exact (by first | exact ety_i64s | exact ety_u8s); exact (by first | exact es_i64s | exact es_u8s); exact (by first | exact zs_i64 | exact zs_u8); exact rfl; exact rfl; (first | exact CoL_d rfl (CoL_d rfl CoL_nil) | exact CoL_b rfl rfl rfl (CoL_b rfl rfl rfl CoL_nil)); exact rfl)
    | (apply Y_lit3; exact (by first | exact ety_i64s | exact ety_u8s); exact (by first | exact es_i64s | exact es_u8s); exact (by first | exact zs_i64 | exact zs_u8); exact rfl; exact rfl; (exact CoL_d rfl (CoL_d rfl (CoL_d rfl CoL_nil))); exact rfl)
    | (apply Y_lit4; exact (by first | exact ety_i64s | exact ety_u8s); exact (by first | exact es_i64s | exact es_u8s); exact (by first | exact zs_i64 | exact zs_u8); exact rfl; exact rfl; (exact CoL_d rfl (CoL_d rfl (CoL_d rfl (CoL_d rfl CoL_nil)))); exact rfl)
    | (apply Y_mkf; exact rfl)
    | (apply w1; exact rfl; exact rfl)
    | (apply k1 (hd := rfl); exact rfl; exact rfl)
    | (apply k0 (hd := rfl); exact rfl; exact rfl)
    | (apply gD; exact rfl; exact rfl; (intro hb); rotate_left; (intro hb); rotate_right)
    | (apply gN; exact rfl; exact rfl; (intro hb); rotate_left; (intro hb); rotate_right)
    | (apply g1; exact rfl; exact rfl; (intro hb); rotate_left; (intro hb); rotate_right)
    | (refine w0' ?_)
    | (apply aStore; exact rfl; exact rfl; exact rfl; exact (by first | exact tc_i64); exact rfl; exact rfl; exact rfl; exact rfl)
    | (apply awp_condD; exact rfl; (intro hb); rotate_left; (intro hb); rotate_right)
    | (apply awp_condN; exact rfl; (intro hb); rotate_left; (intro hb); rotate_right)
    | (apply awp_condT; exact rfl)
    | (apply awp_condF; exact rfl)
    | (apply awp_cond; exact rfl; (intro hb); rotate_left; (intro hb); rotate_right)
    | refine awp_block ?_
    | refine awp_skip ?_
    | refine awp_ret ?_
    | refine awp_exit ?_
    | refine awp_label ?_
    | refine awp_goto ?_
    | refine awp_draw (by kernel_rfl) (by kernel_rfl) ?_
    | refine en_r ?_
    | refine en_e ?_
    | refine eb_n ?_
    | refine eb_r ?_
    | refine eb_e ?_
    | refine eb_o rfl ?_
    | refine en_g ?_
    | refine eb_g ?_
    | refine ej_n ?_
    | refine ej_r ?_
    | refine ej_e ?_
    | refine ej_g ?_
    | refine rpost_ret ?_
    | (apply res1; exact rfl)
    | (apply res1n; exact rfl)
    | (apply res1b; exact rfl; exact rfl; (first | exact rfl | (simp; done)))
    | (apply res2; exact rfl; exact rfl)
    | (apply res2n; exact rfl; exact rfl)
    | (apply res2b; exact rfl; exact rfl; (first | exact rfl | (simp; done)); exact rfl)
    | exact CoL_nil
    | refine CoL_d rfl ?_
    | refine CoL_b rfl rfl rfl ?_
    | refine CoL_n rfl ?_
    | refine CoL_v rfl ?_
  · refine i64_eq ?_
    rw [e] at hb ⊢
    rw [wrap_u64, wrap_i64, wrap_i64, W]
    omega
  · refine i64_eq ?_
    rw [e] at hb ⊢
    rw [wrap_i64, W]
    omega

theorem rWrap_ok (n : Int) : PCall Tryd.prog 12 [i64 n] (i64 (W n)) := by
  refine pcall_of Tryd.func12 rfl Tryd.ntmps12 Tryd.results12 rfl ?_
  intro wb St0
  repeat' first
    | refine en_n ?_
    | refine awp_seq ?_
    | refine awp_region ?_
    | refine alex_nil ?_
    | refine w0 ?_
    | (apply Y_conv; exact rfl; (first
    | exact si64
    | exact su64
    | exact su8
    | exact si32); (first
    | exact ui64
    | exact uu64
    | exact uu8
    | exact ui32))
    | (apply Y_shl; exact rfl; exact rfl; exact (by decide))
    | (apply Y_shr; exact rfl; exact rfl; exact (by decide))
    | (apply Y_addw (k := .u64); exact rfl; exact rfl)
    | (apply Y_subw (k := .u64); exact rfl; exact rfl)
    | (apply Y_mulw (k := .u64); exact rfl; exact rfl)
    | (apply Y_neg; exact rfl)
    | (apply Y_neqb; exact rfl; exact rfl; exact ubool)
    | (apply Y_eqlb; exact rfl; exact rfl; exact ubool)
    | (refine Y_call hb_back (back_ok _ (by rw [wrap_u64]; omega)) (CoL_d rfl CoL_nil))
    | (apply aJ (hd := rfl); (first | exact Co_dd rfl | exact Co_bb rfl rfl rfl | exact Co_nn rfl); exact rfl; exact (by first | exact es_i64s | exact es_u8s); assumption; omega; exact fun _ => rfl)
    | (apply aI (hd := rfl); (first | exact Co_dd rfl | exact Co_bb rfl rfl rfl | exact Co_nn rfl); exact rfl; exact (by first | exact es_i64s | exact es_u8s); exact fun _ => rfl; rotate_left; intro v hv; rotate_right)
    | (apply aApp (hd := rfl) (hro := rfl); exact rfl; exact rfl; (first | exact Co_dd rfl | exact Co_bb rfl rfl rfl | exact Co_nn rfl); (first | exact rfl | (simp; done)); exact rfl; exact (by first | exact ety_i64s | exact ety_u8s); exact (by first | exact es_i64s | exact es_u8s); exact (by first | exact zl_i64 | exact zl_u8); exact (by first | exact by_i64s | exact by_u8s); (first | exact sz_map (fun _ => rfl) | exact sz_lit rfl))
    | (apply aBox (hd := rfl) (hro := rfl); exact rfl; exact rfl)
    | (apply aAlloc (hd := rfl) (hro := rfl); exact (by first | exact zo_i64))
    | apply ay (hd := rfl)
    | (apply Y_move_d; exact rfl)
    | (apply Y_assign_d; exact rfl)
    | (apply Y_field_r; exact rfl; exact (by first | exact rfl))
    | (apply Y_load_r1; exact rfl; exact (by first | exact tc_i64))
    | (apply Y_load_r; exact rfl; exact (by first | exact tc_i64); exact rfl)
    | (apply Y_len_m; exact rfl; exact (by first | exact et_i64s | exact et_u8s))
    | (apply Y_len_d; exact rfl; exact (by first | exact et_i64s | exact et_u8s))
    | (apply Y_lss; exact rfl; exact rfl)
    | (apply Y_leq; exact rfl; exact rfl)
    | (apply Y_gtr; exact rfl; exact rfl)
    | (apply Y_geq; exact rfl; exact rfl)
    | (apply Y_eql; exact rfl; exact rfl)
    | (apply Y_neq; exact rfl; exact rfl)
    | (apply Y_add; exact rfl; exact rfl)
    | (apply Y_sub; exact rfl; exact rfl)
    | (apply Y_mul; exact rfl; exact rfl)
    | (apply Y_not; exact rfl)
    | (apply Y_pick_t; exact rfl; exact rfl)
    | (apply Y_pick_f; exact rfl; exact rfl)
    | (apply Y_extract; exact rfl; exact rfl)
    | (apply Y_max; exact rfl; exact rfl)
    | (apply Y_move_nil; exact rfl)
    | (apply Y_assign_nil; exact rfl)
    | (apply Y_move_buf; exact rfl)
    | (apply Y_assign_buf; exact rfl)
    | (apply Y_len_buf; exact rfl; exact (by first | exact et_i64s | exact et_u8s))
    | (apply Y_len_nil; exact rfl; exact (by first | exact et_i64s | exact et_u8s))
    | (apply Y_move_ptr; exact rfl)
    | (apply Y_assign_ptr; exact rfl)
    | (apply Y_move_clo; exact rfl)
    | (apply Y_assign_clo; exact rfl)
    | (apply Y_field_p; exact rfl; exact (by first | exact rfl))
    | (apply Y_load_p; exact rfl; exact (by first | exact tc_i64); exact rfl; exact rfl)
    | (apply Y_load_pa; exact rfl; exact (by first | exact tc_i64); exact rfl; exact rfl; exact rfl)
    | (apply Y_sl; (first | exact Co_dd rfl | exact Co_bb rfl rfl rfl | exact Co_nn rfl); exact (by first | exact es_i64s | exact es_u8s); exact rfl; exact rfl; exact fun _ => rfl)
    | (apply Y_sl_l; (first | exact Co_dd rfl | exact Co_bb rfl rfl rfl | exact Co_nn rfl); exact (by first | exact es_i64s | exact es_u8s); exact rfl; exact fun _ => rfl)
    | (apply Y_sl_h; (first | exact Co_dd rfl | exact Co_bb rfl rfl rfl | exact Co_nn rfl); exact (by first | exact es_i64s | exact es_u8s); exact rfl; exact fun _ => rfl)
    | (apply Y_lit0; exact (by first | exact ety_i64s | exact ety_u8s); exact (by first | exact es_i64s | exact es_u8s); exact (by first | exact zs_i64 | exact zs_u8); exact rfl)
    | (apply Y_lit1; exact (by first | exact ety_i64s | exact ety_u8s); exact (by first | exact es_i64s | exact es_u8s); exact (by first | exact zs_i64 | exact zs_u8); exact rfl; exact rfl; (first | exact CoL_d rfl CoL_nil | exact CoL_b rfl rfl rfl CoL_nil | exact CoL_n rfl CoL_nil); exact rfl)
    | (apply Y_lit2; exact (by first | exact ety_i64s | exact ety_u8s); exact (by first | exact es_i64s | exact es_u8s); exact (by first | exact zs_i64 | exact zs_u8); exact rfl; exact rfl; (first | exact CoL_d rfl (CoL_d rfl CoL_nil) | exact CoL_b rfl rfl rfl (CoL_b rfl rfl rfl CoL_nil)); exact rfl)
    | (apply Y_lit3; exact (by first | exact ety_i64s | exact ety_u8s); exact (by first | exact es_i64s | exact es_u8s); exact (by first | exact zs_i64 | exact zs_u8); exact rfl; exact rfl; (exact CoL_d rfl (CoL_d rfl (CoL_d rfl CoL_nil))); exact rfl)
    | (apply Y_lit4; exact (by first | exact ety_i64s | exact ety_u8s); exact (by first | exact es_i64s | exact es_u8s); exact (by first | exact zs_i64 | exact zs_u8); exact rfl; exact rfl; (exact CoL_d rfl (CoL_d rfl (CoL_d rfl (CoL_d rfl CoL_nil)))); exact rfl)
    | (apply Y_mkf; exact rfl)
    | (apply w1; exact rfl; exact rfl)
    | (apply k1 (hd := rfl); exact rfl; exact rfl)
    | (apply k0 (hd := rfl); exact rfl; exact rfl)
    | (apply gD; exact rfl; exact rfl; (intro hb); rotate_left; (intro hb); rotate_right)
    | (apply gN; exact rfl; exact rfl; (intro hb); rotate_left; (intro hb); rotate_right)
    | (apply g1; exact rfl; exact rfl; (intro hb); rotate_left; (intro hb); rotate_right)
    | (refine w0' ?_)
    | (apply aStore; exact rfl; exact rfl; exact rfl; exact (by first | exact tc_i64); exact rfl; exact rfl; exact rfl; exact rfl)
    | (apply awp_condD; exact rfl; (intro hb); rotate_left; (intro hb); rotate_right)
    | (apply awp_condN; exact rfl; (intro hb); rotate_left; (intro hb); rotate_right)
    | (apply awp_condT; exact rfl)
    | (apply awp_condF; exact rfl)
    | (apply awp_cond; exact rfl; (intro hb); rotate_left; (intro hb); rotate_right)
    | refine awp_block ?_
    | refine awp_skip ?_
    | refine awp_ret ?_
    | refine awp_exit ?_
    | refine awp_label ?_
    | refine awp_goto ?_
    | refine awp_draw (by kernel_rfl) (by kernel_rfl) ?_
    | refine en_r ?_
    | refine en_e ?_
    | refine eb_n ?_
    | refine eb_r ?_
    | refine eb_e ?_
    | refine eb_o rfl ?_
    | refine en_g ?_
    | refine eb_g ?_
    | refine ej_n ?_
    | refine ej_r ?_
    | refine ej_e ?_
    | refine ej_g ?_
    | refine rpost_ret ?_
    | (apply res1; exact rfl)
    | (apply res1n; exact rfl)
    | (apply res1b; exact rfl; exact rfl; (first | exact rfl | (simp; done)))
    | (apply res2; exact rfl; exact rfl)
    | (apply res2n; exact rfl; exact rfl)
    | (apply res2b; exact rfl; exact rfl; (first | exact rfl | (simp; done)); exact rfl)
    | exact CoL_nil
    | refine CoL_d rfl ?_
    | refine CoL_b rfl rfl rfl ?_
    | refine CoL_n rfl ?_
    | refine CoL_v rfl ?_
  refine i64_eq ?_
  rw [wrap_u64, W, W]
  omega

theorem rAdd_ok (a b : Int) : PCall Tryd.prog 14 [i64 a, i64 b] (i64 (W (a + b))) := by
  refine pcall_of Tryd.func14 rfl Tryd.ntmps14 Tryd.results14 rfl ?_
  intro wb St0
  repeat' first
    | refine en_n ?_
    | refine awp_seq ?_
    | refine awp_region ?_
    | refine alex_nil ?_
    | refine w0 ?_
    | (apply Y_conv; exact rfl; (first
    | exact si64
    | exact su64
    | exact su8
    | exact si32); (first
    | exact ui64
    | exact uu64
    | exact uu8
    | exact ui32))
    | (apply Y_shl; exact rfl; exact rfl; exact (by decide))
    | (apply Y_shr; exact rfl; exact rfl; exact (by decide))
    | (apply Y_addw (k := .u64); exact rfl; exact rfl)
    | (apply Y_subw (k := .u64); exact rfl; exact rfl)
    | (apply Y_mulw (k := .u64); exact rfl; exact rfl)
    | (apply Y_neg; exact rfl)
    | (apply Y_neqb; exact rfl; exact rfl; exact ubool)
    | (apply Y_eqlb; exact rfl; exact rfl; exact ubool)
    | (refine Y_call hb_back (back_ok _ (by rw [wrap_u64]; omega)) (CoL_d rfl CoL_nil))
    | (apply aJ (hd := rfl); (first | exact Co_dd rfl | exact Co_bb rfl rfl rfl | exact Co_nn rfl); exact rfl; exact (by first | exact es_i64s | exact es_u8s); assumption; omega; exact fun _ => rfl)
    | (apply aI (hd := rfl); (first | exact Co_dd rfl | exact Co_bb rfl rfl rfl | exact Co_nn rfl); exact rfl; exact (by first | exact es_i64s | exact es_u8s); exact fun _ => rfl; rotate_left; intro v hv; rotate_right)
    | (apply aApp (hd := rfl) (hro := rfl); exact rfl; exact rfl; (first | exact Co_dd rfl | exact Co_bb rfl rfl rfl | exact Co_nn rfl); (first | exact rfl | (simp; done)); exact rfl; exact (by first | exact ety_i64s | exact ety_u8s); exact (by first | exact es_i64s | exact es_u8s); exact (by first | exact zl_i64 | exact zl_u8); exact (by first | exact by_i64s | exact by_u8s); (first | exact sz_map (fun _ => rfl) | exact sz_lit rfl))
    | (apply aBox (hd := rfl) (hro := rfl); exact rfl; exact rfl)
    | (apply aAlloc (hd := rfl) (hro := rfl); exact (by first | exact zo_i64))
    | apply ay (hd := rfl)
    | (apply Y_move_d; exact rfl)
    | (apply Y_assign_d; exact rfl)
    | (apply Y_field_r; exact rfl; exact (by first | exact rfl))
    | (apply Y_load_r1; exact rfl; exact (by first | exact tc_i64))
    | (apply Y_load_r; exact rfl; exact (by first | exact tc_i64); exact rfl)
    | (apply Y_len_m; exact rfl; exact (by first | exact et_i64s | exact et_u8s))
    | (apply Y_len_d; exact rfl; exact (by first | exact et_i64s | exact et_u8s))
    | (apply Y_lss; exact rfl; exact rfl)
    | (apply Y_leq; exact rfl; exact rfl)
    | (apply Y_gtr; exact rfl; exact rfl)
    | (apply Y_geq; exact rfl; exact rfl)
    | (apply Y_eql; exact rfl; exact rfl)
    | (apply Y_neq; exact rfl; exact rfl)
    | (apply Y_add; exact rfl; exact rfl)
    | (apply Y_sub; exact rfl; exact rfl)
    | (apply Y_mul; exact rfl; exact rfl)
    | (apply Y_not; exact rfl)
    | (apply Y_pick_t; exact rfl; exact rfl)
    | (apply Y_pick_f; exact rfl; exact rfl)
    | (apply Y_extract; exact rfl; exact rfl)
    | (apply Y_max; exact rfl; exact rfl)
    | (apply Y_move_nil; exact rfl)
    | (apply Y_assign_nil; exact rfl)
    | (apply Y_move_buf; exact rfl)
    | (apply Y_assign_buf; exact rfl)
    | (apply Y_len_buf; exact rfl; exact (by first | exact et_i64s | exact et_u8s))
    | (apply Y_len_nil; exact rfl; exact (by first | exact et_i64s | exact et_u8s))
    | (apply Y_move_ptr; exact rfl)
    | (apply Y_assign_ptr; exact rfl)
    | (apply Y_move_clo; exact rfl)
    | (apply Y_assign_clo; exact rfl)
    | (apply Y_field_p; exact rfl; exact (by first | exact rfl))
    | (apply Y_load_p; exact rfl; exact (by first | exact tc_i64); exact rfl; exact rfl)
    | (apply Y_load_pa; exact rfl; exact (by first | exact tc_i64); exact rfl; exact rfl; exact rfl)
    | (apply Y_sl; (first | exact Co_dd rfl | exact Co_bb rfl rfl rfl | exact Co_nn rfl); exact (by first | exact es_i64s | exact es_u8s); exact rfl; exact rfl; exact fun _ => rfl)
    | (apply Y_sl_l; (first | exact Co_dd rfl | exact Co_bb rfl rfl rfl | exact Co_nn rfl); exact (by first | exact es_i64s | exact es_u8s); exact rfl; exact fun _ => rfl)
    | (apply Y_sl_h; (first | exact Co_dd rfl | exact Co_bb rfl rfl rfl | exact Co_nn rfl); exact (by first | exact es_i64s | exact es_u8s); exact rfl; exact fun _ => rfl)
    | (apply Y_lit0; exact (by first | exact ety_i64s | exact ety_u8s); exact (by first | exact es_i64s | exact es_u8s); exact (by first | exact zs_i64 | exact zs_u8); exact rfl)
    | (apply Y_lit1; exact (by first | exact ety_i64s | exact ety_u8s); exact (by first | exact es_i64s | exact es_u8s); exact (by first | exact zs_i64 | exact zs_u8); exact rfl; exact rfl; (first | exact CoL_d rfl CoL_nil | exact CoL_b rfl rfl rfl CoL_nil | exact CoL_n rfl CoL_nil); exact rfl)
    | (apply Y_lit2; exact (by first | exact ety_i64s | exact ety_u8s); exact (by first | exact es_i64s | exact es_u8s); exact (by first | exact zs_i64 | exact zs_u8); exact rfl; exact rfl; (first | exact CoL_d rfl (CoL_d rfl CoL_nil) | exact CoL_b rfl rfl rfl (CoL_b rfl rfl rfl CoL_nil)); exact rfl)
    | (apply Y_lit3; exact (by first | exact ety_i64s | exact ety_u8s); exact (by first | exact es_i64s | exact es_u8s); exact (by first | exact zs_i64 | exact zs_u8); exact rfl; exact rfl; (exact CoL_d rfl (CoL_d rfl (CoL_d rfl CoL_nil))); exact rfl)
    | (apply Y_lit4; exact (by first | exact ety_i64s | exact ety_u8s); exact (by first | exact es_i64s | exact es_u8s); exact (by first | exact zs_i64 | exact zs_u8); exact rfl; exact rfl; (exact CoL_d rfl (CoL_d rfl (CoL_d rfl (CoL_d rfl CoL_nil)))); exact rfl)
    | (apply Y_mkf; exact rfl)
    | (apply w1; exact rfl; exact rfl)
    | (apply k1 (hd := rfl); exact rfl; exact rfl)
    | (apply k0 (hd := rfl); exact rfl; exact rfl)
    | (apply gD; exact rfl; exact rfl; (intro hb); rotate_left; (intro hb); rotate_right)
    | (apply gN; exact rfl; exact rfl; (intro hb); rotate_left; (intro hb); rotate_right)
    | (apply g1; exact rfl; exact rfl; (intro hb); rotate_left; (intro hb); rotate_right)
    | (refine w0' ?_)
    | (apply aStore; exact rfl; exact rfl; exact rfl; exact (by first | exact tc_i64); exact rfl; exact rfl; exact rfl; exact rfl)
    | (apply awp_condD; exact rfl; (intro hb); rotate_left; (intro hb); rotate_right)
    | (apply awp_condN; exact rfl; (intro hb); rotate_left; (intro hb); rotate_right)
    | (apply awp_condT; exact rfl)
    | (apply awp_condF; exact rfl)
    | (apply awp_cond; exact rfl; (intro hb); rotate_left; (intro hb); rotate_right)
    | refine awp_block ?_
    | refine awp_skip ?_
    | refine awp_ret ?_
    | refine awp_exit ?_
    | refine awp_label ?_
    | refine awp_goto ?_
    | refine awp_draw (by kernel_rfl) (by kernel_rfl) ?_
    | refine en_r ?_
    | refine en_e ?_
    | refine eb_n ?_
    | refine eb_r ?_
    | refine eb_e ?_
    | refine eb_o rfl ?_
    | refine en_g ?_
    | refine eb_g ?_
    | refine ej_n ?_
    | refine ej_r ?_
    | refine ej_e ?_
    | refine ej_g ?_
    | refine rpost_ret ?_
    | (apply res1; exact rfl)
    | (apply res1n; exact rfl)
    | (apply res1b; exact rfl; exact rfl; (first | exact rfl | (simp; done)))
    | (apply res2; exact rfl; exact rfl)
    | (apply res2n; exact rfl; exact rfl)
    | (apply res2b; exact rfl; exact rfl; (first | exact rfl | (simp; done)); exact rfl)
    | exact CoL_nil
    | refine CoL_d rfl ?_
    | refine CoL_b rfl rfl rfl ?_
    | refine CoL_n rfl ?_
    | refine CoL_v rfl ?_
  refine i64_eq ?_
  rw [wrap_u64, wrap_u64, wrap_u64, W, W]
  omega

theorem rSub_ok (a b : Int) : PCall Tryd.prog 16 [i64 a, i64 b] (i64 (W (a - b))) := by
  refine pcall_of Tryd.func16 rfl Tryd.ntmps16 Tryd.results16 rfl ?_
  intro wb St0
  repeat' first
    | refine en_n ?_
    | refine awp_seq ?_
    | refine awp_region ?_
    | refine alex_nil ?_
    | refine w0 ?_
    | (apply Y_conv; exact rfl; (first
    | exact si64
    | exact su64
    | exact su8
    | exact si32); (first
    | exact ui64
    | exact uu64
    | exact uu8
    | exact ui32))
    | (apply Y_shl; exact rfl; exact rfl; exact (by decide))
    | (apply Y_shr; exact rfl; exact rfl; exact (by decide))
    | (apply Y_addw (k := .u64); exact rfl; exact rfl)
    | (apply Y_subw (k := .u64); exact rfl; exact rfl)
    | (apply Y_mulw (k := .u64); exact rfl; exact rfl)
    | (apply Y_neg; exact rfl)
    | (apply Y_neqb; exact rfl; exact rfl; exact ubool)
    | (apply Y_eqlb; exact rfl; exact rfl; exact ubool)
    | (refine Y_call hb_back (back_ok _ (by rw [wrap_u64]; omega)) (CoL_d rfl CoL_nil))
    | (apply aJ (hd := rfl); (first | exact Co_dd rfl | exact Co_bb rfl rfl rfl | exact Co_nn rfl); exact rfl; exact (by first | exact es_i64s | exact es_u8s); assumption; omega; exact fun _ => rfl)
    | (apply aI (hd := rfl); (first | exact Co_dd rfl | exact Co_bb rfl rfl rfl | exact Co_nn rfl); exact rfl; exact (by first | exact es_i64s | exact es_u8s); exact fun _ => rfl; rotate_left; intro v hv; rotate_right)
    | (apply aApp (hd := rfl) (hro := rfl); exact rfl; exact rfl; (first | exact Co_dd rfl | exact Co_bb rfl rfl rfl | exact Co_nn rfl); (first | exact rfl | (simp; done)); exact rfl; exact (by first | exact ety_i64s | exact ety_u8s); exact (by first | exact es_i64s | exact es_u8s); exact (by first | exact zl_i64 | exact zl_u8); exact (by first | exact by_i64s | exact by_u8s); (first | exact sz_map (fun _ => rfl) | exact sz_lit rfl))
    | (apply aBox (hd := rfl) (hro := rfl); exact rfl; exact rfl)
    | (apply aAlloc (hd := rfl) (hro := rfl); exact (by first | exact zo_i64))
    | apply ay (hd := rfl)
    | (apply Y_move_d; exact rfl)
    | (apply Y_assign_d; exact rfl)
    | (apply Y_field_r; exact rfl; exact (by first | exact rfl))
    | (apply Y_load_r1; exact rfl; exact (by first | exact tc_i64))
    | (apply Y_load_r; exact rfl; exact (by first | exact tc_i64); exact rfl)
    | (apply Y_len_m; exact rfl; exact (by first | exact et_i64s | exact et_u8s))
    | (apply Y_len_d; exact rfl; exact (by first | exact et_i64s | exact et_u8s))
    | (apply Y_lss; exact rfl; exact rfl)
    | (apply Y_leq; exact rfl; exact rfl)
    | (apply Y_gtr; exact rfl; exact rfl)
    | (apply Y_geq; exact rfl; exact rfl)
    | (apply Y_eql; exact rfl; exact rfl)
    | (apply Y_neq; exact rfl; exact rfl)
    | (apply Y_add; exact rfl; exact rfl)
    | (apply Y_sub; exact rfl; exact rfl)
    | (apply Y_mul; exact rfl; exact rfl)
    | (apply Y_not; exact rfl)
    | (apply Y_pick_t; exact rfl; exact rfl)
    | (apply Y_pick_f; exact rfl; exact rfl)
    | (apply Y_extract; exact rfl; exact rfl)
    | (apply Y_max; exact rfl; exact rfl)
    | (apply Y_move_nil; exact rfl)
    | (apply Y_assign_nil; exact rfl)
    | (apply Y_move_buf; exact rfl)
    | (apply Y_assign_buf; exact rfl)
    | (apply Y_len_buf; exact rfl; exact (by first | exact et_i64s | exact et_u8s))
    | (apply Y_len_nil; exact rfl; exact (by first | exact et_i64s | exact et_u8s))
    | (apply Y_move_ptr; exact rfl)
    | (apply Y_assign_ptr; exact rfl)
    | (apply Y_move_clo; exact rfl)
    | (apply Y_assign_clo; exact rfl)
    | (apply Y_field_p; exact rfl; exact (by first | exact rfl))
    | (apply Y_load_p; exact rfl; exact (by first | exact tc_i64); exact rfl; exact rfl)
    | (apply Y_load_pa; exact rfl; exact (by first | exact tc_i64); exact rfl; exact rfl; exact rfl)
    | (apply Y_sl; (first | exact Co_dd rfl | exact Co_bb rfl rfl rfl | exact Co_nn rfl); exact (by first | exact es_i64s | exact es_u8s); exact rfl; exact rfl; exact fun _ => rfl)
    | (apply Y_sl_l; (first | exact Co_dd rfl | exact Co_bb rfl rfl rfl | exact Co_nn rfl); exact (by first | exact es_i64s | exact es_u8s); exact rfl; exact fun _ => rfl)
    | (apply Y_sl_h; (first | exact Co_dd rfl | exact Co_bb rfl rfl rfl | exact Co_nn rfl); exact (by first | exact es_i64s | exact es_u8s); exact rfl; exact fun _ => rfl)
    | (apply Y_lit0; exact (by first | exact ety_i64s | exact ety_u8s); exact (by first | exact es_i64s | exact es_u8s); exact (by first | exact zs_i64 | exact zs_u8); exact rfl)
    | (apply Y_lit1; exact (by first | exact ety_i64s | exact ety_u8s); exact (by first | exact es_i64s | exact es_u8s); exact (by first | exact zs_i64 | exact zs_u8); exact rfl; exact rfl; (first | exact CoL_d rfl CoL_nil | exact CoL_b rfl rfl rfl CoL_nil | exact CoL_n rfl CoL_nil); exact rfl)
    | (apply Y_lit2; exact (by first | exact ety_i64s | exact ety_u8s); exact (by first | exact es_i64s | exact es_u8s); exact (by first | exact zs_i64 | exact zs_u8); exact rfl; exact rfl; (first | exact CoL_d rfl (CoL_d rfl CoL_nil) | exact CoL_b rfl rfl rfl (CoL_b rfl rfl rfl CoL_nil)); exact rfl)
    | (apply Y_lit3; exact (by first | exact ety_i64s | exact ety_u8s); exact (by first | exact es_i64s | exact es_u8s); exact (by first | exact zs_i64 | exact zs_u8); exact rfl; exact rfl; (exact CoL_d rfl (CoL_d rfl (CoL_d rfl CoL_nil))); exact rfl)
    | (apply Y_lit4; exact (by first | exact ety_i64s | exact ety_u8s); exact (by first | exact es_i64s | exact es_u8s); exact (by first | exact zs_i64 | exact zs_u8); exact rfl; exact rfl; (exact CoL_d rfl (CoL_d rfl (CoL_d rfl (CoL_d rfl CoL_nil)))); exact rfl)
    | (apply Y_mkf; exact rfl)
    | (apply w1; exact rfl; exact rfl)
    | (apply k1 (hd := rfl); exact rfl; exact rfl)
    | (apply k0 (hd := rfl); exact rfl; exact rfl)
    | (apply gD; exact rfl; exact rfl; (intro hb); rotate_left; (intro hb); rotate_right)
    | (apply gN; exact rfl; exact rfl; (intro hb); rotate_left; (intro hb); rotate_right)
    | (apply g1; exact rfl; exact rfl; (intro hb); rotate_left; (intro hb); rotate_right)
    | (refine w0' ?_)
    | (apply aStore; exact rfl; exact rfl; exact rfl; exact (by first | exact tc_i64); exact rfl; exact rfl; exact rfl; exact rfl)
    | (apply awp_condD; exact rfl; (intro hb); rotate_left; (intro hb); rotate_right)
    | (apply awp_condN; exact rfl; (intro hb); rotate_left; (intro hb); rotate_right)
    | (apply awp_condT; exact rfl)
    | (apply awp_condF; exact rfl)
    | (apply awp_cond; exact rfl; (intro hb); rotate_left; (intro hb); rotate_right)
    | refine awp_block ?_
    | refine awp_skip ?_
    | refine awp_ret ?_
    | refine awp_exit ?_
    | refine awp_label ?_
    | refine awp_goto ?_
    | refine awp_draw (by kernel_rfl) (by kernel_rfl) ?_
    | refine en_r ?_
    | refine en_e ?_
    | refine eb_n ?_
    | refine eb_r ?_
    | refine eb_e ?_
    | refine eb_o rfl ?_
    | refine en_g ?_
    | refine eb_g ?_
    | refine ej_n ?_
    | refine ej_r ?_
    | refine ej_e ?_
    | refine ej_g ?_
    | refine rpost_ret ?_
    | (apply res1; exact rfl)
    | (apply res1n; exact rfl)
    | (apply res1b; exact rfl; exact rfl; (first | exact rfl | (simp; done)))
    | (apply res2; exact rfl; exact rfl)
    | (apply res2n; exact rfl; exact rfl)
    | (apply res2b; exact rfl; exact rfl; (first | exact rfl | (simp; done)); exact rfl)
    | exact CoL_nil
    | refine CoL_d rfl ?_
    | refine CoL_b rfl rfl rfl ?_
    | refine CoL_n rfl ?_
    | refine CoL_v rfl ?_
  refine i64_eq ?_
  rw [wrap_u64, wrap_u64, wrap_u64, W, W]
  omega

theorem rMul_ok (a b : Int) : PCall Tryd.prog 18 [i64 a, i64 b] (i64 (W (a * b))) := by
  refine pcall_of Tryd.func18 rfl Tryd.ntmps18 Tryd.results18 rfl ?_
  intro wb St0
  repeat' first
    | refine en_n ?_
    | refine awp_seq ?_
    | refine awp_region ?_
    | refine alex_nil ?_
    | refine w0 ?_
    | (apply Y_conv; exact rfl; (first
    | exact si64
    | exact su64
    | exact su8
    | exact si32); (first
    | exact ui64
    | exact uu64
    | exact uu8
    | exact ui32))
    | (apply Y_shl; exact rfl; exact rfl; exact (by decide))
    | (apply Y_shr; exact rfl; exact rfl; exact (by decide))
    | (apply Y_addw (k := .u64); exact rfl; exact rfl)
    | (apply Y_subw (k := .u64); exact rfl; exact rfl)
    | (apply Y_mulw (k := .u64); exact rfl; exact rfl)
    | (apply Y_neg; exact rfl)
    | (apply Y_neqb; exact rfl; exact rfl; exact ubool)
    | (apply Y_eqlb; exact rfl; exact rfl; exact ubool)
    | (refine Y_call hb_back (back_ok _ (by rw [wrap_u64]; omega)) (CoL_d rfl CoL_nil))
    | (apply aJ (hd := rfl); (first | exact Co_dd rfl | exact Co_bb rfl rfl rfl | exact Co_nn rfl); exact rfl; exact (by first | exact es_i64s | exact es_u8s); assumption; omega; exact fun _ => rfl)
    | (apply aI (hd := rfl); (first | exact Co_dd rfl | exact Co_bb rfl rfl rfl | exact Co_nn rfl); exact rfl; exact (by first | exact es_i64s | exact es_u8s); exact fun _ => rfl; rotate_left; intro v hv; rotate_right)
    | (apply aApp (hd := rfl) (hro := rfl); exact rfl; exact rfl; (first | exact Co_dd rfl | exact Co_bb rfl rfl rfl | exact Co_nn rfl); (first | exact rfl | (simp; done)); exact rfl; exact (by first | exact ety_i64s | exact ety_u8s); exact (by first | exact es_i64s | exact es_u8s); exact (by first | exact zl_i64 | exact zl_u8); exact (by first | exact by_i64s | exact by_u8s); (first | exact sz_map (fun _ => rfl) | exact sz_lit rfl))
    | (apply aBox (hd := rfl) (hro := rfl); exact rfl; exact rfl)
    | (apply aAlloc (hd := rfl) (hro := rfl); exact (by first | exact zo_i64))
    | apply ay (hd := rfl)
    | (apply Y_move_d; exact rfl)
    | (apply Y_assign_d; exact rfl)
    | (apply Y_field_r; exact rfl; exact (by first | exact rfl))
    | (apply Y_load_r1; exact rfl; exact (by first | exact tc_i64))
    | (apply Y_load_r; exact rfl; exact (by first | exact tc_i64); exact rfl)
    | (apply Y_len_m; exact rfl; exact (by first | exact et_i64s | exact et_u8s))
    | (apply Y_len_d; exact rfl; exact (by first | exact et_i64s | exact et_u8s))
    | (apply Y_lss; exact rfl; exact rfl)
    | (apply Y_leq; exact rfl; exact rfl)
    | (apply Y_gtr; exact rfl; exact rfl)
    | (apply Y_geq; exact rfl; exact rfl)
    | (apply Y_eql; exact rfl; exact rfl)
    | (apply Y_neq; exact rfl; exact rfl)
    | (apply Y_add; exact rfl; exact rfl)
    | (apply Y_sub; exact rfl; exact rfl)
    | (apply Y_mul; exact rfl; exact rfl)
    | (apply Y_not; exact rfl)
    | (apply Y_pick_t; exact rfl; exact rfl)
    | (apply Y_pick_f; exact rfl; exact rfl)
    | (apply Y_extract; exact rfl; exact rfl)
    | (apply Y_max; exact rfl; exact rfl)
    | (apply Y_move_nil; exact rfl)
    | (apply Y_assign_nil; exact rfl)
    | (apply Y_move_buf; exact rfl)
    | (apply Y_assign_buf; exact rfl)
    | (apply Y_len_buf; exact rfl; exact (by first | exact et_i64s | exact et_u8s))
    | (apply Y_len_nil; exact rfl; exact (by first | exact et_i64s | exact et_u8s))
    | (apply Y_move_ptr; exact rfl)
    | (apply Y_assign_ptr; exact rfl)
    | (apply Y_move_clo; exact rfl)
    | (apply Y_assign_clo; exact rfl)
    | (apply Y_field_p; exact rfl; exact (by first | exact rfl))
    | (apply Y_load_p; exact rfl; exact (by first | exact tc_i64); exact rfl; exact rfl)
    | (apply Y_load_pa; exact rfl; exact (by first | exact tc_i64); exact rfl; exact rfl; exact rfl)
    | (apply Y_sl; (first | exact Co_dd rfl | exact Co_bb rfl rfl rfl | exact Co_nn rfl); exact (by first | exact es_i64s | exact es_u8s); exact rfl; exact rfl; exact fun _ => rfl)
    | (apply Y_sl_l; (first | exact Co_dd rfl | exact Co_bb rfl rfl rfl | exact Co_nn rfl); exact (by first | exact es_i64s | exact es_u8s); exact rfl; exact fun _ => rfl)
    | (apply Y_sl_h; (first | exact Co_dd rfl | exact Co_bb rfl rfl rfl | exact Co_nn rfl); exact (by first | exact es_i64s | exact es_u8s); exact rfl; exact fun _ => rfl)
    | (apply Y_lit0; exact (by first | exact ety_i64s | exact ety_u8s); exact (by first | exact es_i64s | exact es_u8s); exact (by first | exact zs_i64 | exact zs_u8); exact rfl)
    | (apply Y_lit1; exact (by first | exact ety_i64s | exact ety_u8s); exact (by first | exact es_i64s | exact es_u8s); exact (by first | exact zs_i64 | exact zs_u8); exact rfl; exact rfl; (first | exact CoL_d rfl CoL_nil | exact CoL_b rfl rfl rfl CoL_nil | exact CoL_n rfl CoL_nil); exact rfl)
    | (apply Y_lit2; exact (by first | exact ety_i64s | exact ety_u8s); exact (by first | exact es_i64s | exact es_u8s); exact (by first | exact zs_i64 | exact zs_u8); exact rfl; exact rfl; (first | exact CoL_d rfl (CoL_d rfl CoL_nil) | exact CoL_b rfl rfl rfl (CoL_b rfl rfl rfl CoL_nil)); exact rfl)
    | (apply Y_lit3; exact (by first | exact ety_i64s | exact ety_u8s); exact (by first | exact es_i64s | exact es_u8s); exact (by first | exact zs_i64 | exact zs_u8); exact rfl; exact rfl; (exact CoL_d rfl (CoL_d rfl (CoL_d rfl CoL_nil))); exact rfl)
    | (apply Y_lit4; exact (by first | exact ety_i64s | exact ety_u8s); exact (by first | exact es_i64s | exact es_u8s); exact (by first | exact zs_i64 | exact zs_u8); exact rfl; exact rfl; (exact CoL_d rfl (CoL_d rfl (CoL_d rfl (CoL_d rfl CoL_nil)))); exact rfl)
    | (apply Y_mkf; exact rfl)
    | (apply w1; exact rfl; exact rfl)
    | (apply k1 (hd := rfl); exact rfl; exact rfl)
    | (apply k0 (hd := rfl); exact rfl; exact rfl)
    | (apply gD; exact rfl; exact rfl; (intro hb); rotate_left; (intro hb); rotate_right)
    | (apply gN; exact rfl; exact rfl; (intro hb); rotate_left; (intro hb); rotate_right)
    | (apply g1; exact rfl; exact rfl; (intro hb); rotate_left; (intro hb); rotate_right)
    | (refine w0' ?_)
    | (apply aStore; exact rfl; exact rfl; exact rfl; exact (by first | exact tc_i64); exact rfl; exact rfl; exact rfl; exact rfl)
    | (apply awp_condD; exact rfl; (intro hb); rotate_left; (intro hb); rotate_right)
    | (apply awp_condN; exact rfl; (intro hb); rotate_left; (intro hb); rotate_right)
    | (apply awp_condT; exact rfl)
    | (apply awp_condF; exact rfl)
    | (apply awp_cond; exact rfl; (intro hb); rotate_left; (intro hb); rotate_right)
    | refine awp_block ?_
    | refine awp_skip ?_
    | refine awp_ret ?_
    | refine awp_exit ?_
    | refine awp_label ?_
    | refine awp_goto ?_
    | refine awp_draw (by kernel_rfl) (by kernel_rfl) ?_
    | refine en_r ?_
    | refine en_e ?_
    | refine eb_n ?_
    | refine eb_r ?_
    | refine eb_e ?_
    | refine eb_o rfl ?_
    | refine en_g ?_
    | refine eb_g ?_
    | refine ej_n ?_
    | refine ej_r ?_
    | refine ej_e ?_
    | refine ej_g ?_
    | refine rpost_ret ?_
    | (apply res1; exact rfl)
    | (apply res1n; exact rfl)
    | (apply res1b; exact rfl; exact rfl; (first | exact rfl | (simp; done)))
    | (apply res2; exact rfl; exact rfl)
    | (apply res2n; exact rfl; exact rfl)
    | (apply res2b; exact rfl; exact rfl; (first | exact rfl | (simp; done)); exact rfl)
    | exact CoL_nil
    | refine CoL_d rfl ?_
    | refine CoL_b rfl rfl rfl ?_
    | refine CoL_n rfl ?_
    | refine CoL_v rfl ?_
  refine i64_eq ?_
  rw [wrap_u64, wrap_u64, wrap_u64, ← Int.mul_emod, W, W]
  omega

theorem wSub_ok (a b : Int) : PCall Tryd.prog 15 [i64 a, i64 b] (i64 (W (a - b))) := by
  refine pcall_of Tryd.func15 rfl Tryd.ntmps15 Tryd.results15 rfl ?_
  intro wb St0
  repeat' first
    | refine en_n ?_
    | refine awp_seq ?_
    | refine awp_region ?_
    | refine alex_nil ?_
    | refine w0 ?_
    | (apply Y_conv; exact rfl; (first
    | exact si64
    | exact su64
    | exact su8
    | exact si32); (first
    | exact ui64
    | exact uu64
    | exact uu8
    | exact ui32))
    | (apply Y_shl; exact rfl; exact rfl; exact (by decide))
    | (apply Y_shr; exact rfl; exact rfl; exact (by decide))
    | (apply Y_addw (k := .u64); exact rfl; exact rfl)
    | (apply Y_subw (k := .u64); exact rfl; exact rfl)
    | (apply Y_mulw (k := .u64); exact rfl; exact rfl)
    | (apply Y_neg; exact rfl)
    | (apply Y_neqb; exact rfl; exact rfl; exact ubool)
    | (apply Y_eqlb; exact rfl; exact rfl; exact ubool)
    | (refine Y_call hb_wWrap (wWrap_ok _) (CoL_d rfl CoL_nil))
    | (apply aJ (hd := rfl); (first | exact Co_dd rfl | exact Co_bb rfl rfl rfl | exact Co_nn rfl); exact rfl; exact (by first | exact es_i64s | exact es_u8s); assumption; omega; exact fun _ => rfl)
    | (apply aI (hd := rfl); (first | exact Co_dd rfl | exact Co_bb rfl rfl rfl | exact Co_nn rfl); exact rfl; exact (by first | exact es_i64s | exact es_u8s); exact fun _ => rfl; rotate_left; intro v hv; rotate_right)
    | (apply aApp (hd := rfl) (hro := rfl); exact rfl; exact rfl; (first | exact Co_dd rfl | exact Co_bb rfl rfl rfl | exact Co_nn rfl); (first | exact rfl | (simp; done)); exact rfl; exact (by first | exact ety_i64s | exact ety_u8s); exact (by first | exact es_i64s | exact es_u8s); exact (by first | exact zl_i64 | exact zl_u8); exact (by first | exact by_i64s | exact by_u8s); (first | exact sz_map (fun _ => rfl) | exact sz_lit rfl))
    | (apply aBox (hd := rfl) (hro := rfl); exact rfl; exact rfl)
    | (apply aAlloc (hd := rfl) (hro := rfl); exact (by first | exact zo_i64))
    | apply ay (hd := rfl)
    | (apply Y_move_d; exact rfl)
    | (apply Y_assign_d; exact rfl)
    | (apply Y_field_r; exact rfl; exact (by first | exact rfl))
    | (apply Y_load_r1; exact rfl; exact (by first | exact tc_i64))
    | (apply Y_load_r; exact rfl; exact (by first | exact tc_i64); exact rfl)
    | (apply Y_len_m; exact rfl; exact (by first | exact et_i64s | exact et_u8s))
    | (apply Y_len_d; exact rfl; exact (by first | exact et_i64s | exact et_u8s))
    | (apply Y_lss; exact rfl; exact rfl)
    | (apply Y_leq; exact rfl; exact rfl)
    | (apply Y_gtr; exact rfl; exact rfl)
    | (apply Y_geq; exact rfl; exact rfl)
    | (apply Y_eql; exact rfl; exact rfl)
    | (apply Y_neq; exact rfl; exact rfl)
    | (apply Y_add; exact rfl; exact rfl)
    | (apply Y_sub; exact rfl; exact rfl)
    | (apply Y_mul; exact rfl; exact rfl)
    | (apply Y_not; exact rfl)
    | (apply Y_pick_t; exact rfl; exact rfl)
    | (apply Y_pick_f; exact rfl; exact rfl)
    | (apply Y_extract; exact rfl; exact rfl)
    | (apply Y_max; exact rfl; exact rfl)
    | (apply Y_move_nil; exact rfl)
    | (apply Y_assign_nil; exact rfl)
    | (apply Y_move_buf; exact rfl)
    | (apply Y_assign_buf; exact rfl)
    | (apply Y_len_buf; exact rfl; exact (by first | exact et_i64s | exact et_u8s))
    | (apply Y_len_nil; exact rfl; exact (by first | exact et_i64s | exact et_u8s))
    | (apply Y_move_ptr; exact rfl)
    | (apply Y_assign_ptr; exact rfl)
    | (apply Y_move_clo; exact rfl)
    | (apply Y_assign_clo; exact rfl)
    | (apply Y_field_p; exact rfl; exact (by first | exact rfl))
    | (apply Y_load_p; exact rfl; exact (by first | exact tc_i64); exact rfl; exact rfl)
    | (apply Y_load_pa; exact rfl; exact (by first | exact tc_i64); exact rfl; exact rfl; exact rfl)
    | (apply Y_sl; (first | exact Co_dd rfl | exact Co_bb rfl rfl rfl | exact Co_nn rfl); exact (by first | exact es_i64s | exact es_u8s); exact rfl; exact rfl; exact fun _ => rfl)
    | (apply Y_sl_l; (first | exact Co_dd rfl | exact Co_bb rfl rfl rfl | exact Co_nn rfl); exact (by first | exact es_i64s | exact es_u8s); exact rfl; exact fun _ => rfl)
    | (apply Y_sl_h; (first | exact Co_dd rfl | exact Co_bb rfl rfl rfl | exact Co_nn rfl); exact (by first | exact es_i64s | exact es_u8s); exact rfl; exact fun _ => rfl)
    | (apply Y_lit0; exact (by first | exact ety_i64s | exact ety_u8s); exact (by first | exact es_i64s | exact es_u8s); exact (by first | exact zs_i64 | exact zs_u8); exact rfl)
    | (apply Y_lit1; exact (by first | exact ety_i64s | exact ety_u8s); exact (by first | exact es_i64s | exact es_u8s); exact (by first | exact zs_i64 | exact zs_u8); exact rfl; exact rfl; (first | exact CoL_d rfl CoL_nil | exact CoL_b rfl rfl rfl CoL_nil | exact CoL_n rfl CoL_nil); exact rfl)
    | (apply Y_lit2; exact (by first | exact ety_i64s | exact ety_u8s); exact (by first | exact es_i64s | exact es_u8s); exact (by first | exact zs_i64 | exact zs_u8); exact rfl; exact rfl; (first | exact CoL_d rfl (CoL_d rfl CoL_nil) | exact CoL_b rfl rfl rfl (CoL_b rfl rfl rfl CoL_nil)); exact rfl)
    | (apply Y_lit3; exact (by first | exact ety_i64s | exact ety_u8s); exact (by first | exact es_i64s | exact es_u8s); exact (by first | exact zs_i64 | exact zs_u8); exact rfl; exact rfl; (exact CoL_d rfl (CoL_d rfl (CoL_d rfl CoL_nil))); exact rfl)
    | (apply Y_lit4; exact (by first | exact ety_i64s | exact ety_u8s); exact (by first | exact es_i64s | exact es_u8s); exact (by first | exact zs_i64 | exact zs_u8); exact rfl; exact rfl; (exact CoL_d rfl (CoL_d rfl (CoL_d rfl (CoL_d rfl CoL_nil)))); exact rfl)
    | (apply Y_mkf; exact rfl)
    | (apply w1; exact rfl; exact rfl)
    | (apply k1 (hd := rfl); exact rfl; exact rfl)
    | (apply k0 (hd := rfl); exact rfl; exact rfl)
    | (apply gD; exact rfl; exact rfl; (intro hb); rotate_left; (intro hb); rotate_right)
    | (apply gN; exact rfl; exact rfl; (intro hb); rotate_left; (intro hb); rotate_right)
    | (apply g1; exact rfl; exact rfl; (intro hb); rotate_left; (intro hb); rotate_right)
    | (refine w0' ?_)
    | (apply aStore; exact rfl; exact rfl; exact rfl; exact (by first | exact tc_i64); exact rfl; exact rfl; exact rfl; exact rfl)
    | (apply awp_condD; exact rfl; (intro hb); rotate_left; (intro hb); rotate_right)
    | (apply awp_condN; exact rfl; (intro hb); rotate_left; (intro hb); rotate_right)
    | (apply awp_condT; exact rfl)
    | (apply awp_condF; exact rfl)
    | (apply awp_cond; exact rfl; (intro hb); rotate_left; (intro hb); rotate_right)
    | refine awp_block ?_
    | refine awp_skip ?_
    | refine awp_ret ?_
    | refine awp_exit ?_
    | refine awp_label ?_
    | refine awp_goto ?_
    | refine awp_draw (by kernel_rfl) (by kernel_rfl) ?_
    | refine en_r ?_
    | refine en_e ?_
    | refine eb_n ?_
    | refine eb_r ?_
    | refine eb_e ?_
    | refine eb_o rfl ?_
    | refine en_g ?_
    | refine eb_g ?_
    | refine ej_n ?_
    | refine ej_r ?_
    | refine ej_e ?_
    | refine ej_g ?_
    | refine rpost_ret ?_
    | (apply res1; exact rfl)
    | (apply res1n; exact rfl)
    | (apply res1b; exact rfl; exact rfl; (first | exact rfl | (simp; done)))
    | (apply res2; exact rfl; exact rfl)
    | (apply res2n; exact rfl; exact rfl)
    | (apply res2b; exact rfl; exact rfl; (first | exact rfl | (simp; done)); exact rfl)
    | exact CoL_nil
    | refine CoL_d rfl ?_
    | refine CoL_b rfl rfl rfl ?_
    | refine CoL_n rfl ?_
    | refine CoL_v rfl ?_
  refine i64_eq ?_
  rw [wrap_u64, wrap_u64, wrap_u64, wrap_i64, W, W]
  omega

theorem wMul_ok (a b : Int) : PCall Tryd.prog 17 [i64 a, i64 b] (i64 (W (a * b))) := by
  refine pcall_of Tryd.func17 rfl Tryd.ntmps17 Tryd.results17 rfl ?_
  intro wb St0
  repeat' first
    | refine en_n ?_
    | refine awp_seq ?_
    | refine awp_region ?_
    | refine alex_nil ?_
    | refine w0 ?_
    | (apply Y_conv; exact rfl; (first
    | exact si64
    | exact su64
    | exact su8
    | exact si32); (first
    | exact ui64
    | exact uu64
    | exact uu8
    | exact ui32))
    | (apply Y_shl; exact rfl; exact rfl; exact (by decide))
    | (apply Y_shr; exact rfl; exact rfl; exact (by decide))
    | (apply Y_addw (k := .u64); exact rfl; exact rfl)
    | (apply Y_subw (k := .u64); exact rfl; exact rfl)
    | (apply Y_mulw (k := .u64); exact rfl; exact rfl)
    | (apply Y_neg; exact rfl)
    | (apply Y_neqb; exact rfl; exact rfl; exact ubool)
    | (apply Y_eqlb; exact rfl; exact rfl; exact ubool)
    | (refine Y_call hb_wWrap (wWrap_ok _) (CoL_d rfl CoL_nil))
    | (apply aJ (hd := rfl); (first | exact Co_dd rfl | exact Co_bb rfl rfl rfl | exact Co_nn rfl); exact rfl; exact (by first | exact es_i64s | exact es_u8s); assumption; omega; exact fun _ => rfl)
    | (apply aI (hd := rfl); (first | exact Co_dd rfl | exact Co_bb rfl rfl rfl | exact Co_nn rfl); exact rfl; exact (by first | exact es_i64s | exact es_u8s); exact fun _ => rfl; rotate_left; intro v hv; rotate_right)
    | (apply aApp (hd := rfl) (hro := rfl); exact rfl; exact rfl; (first | exact Co_dd rfl | exact Co_bb rfl rfl rfl | exact Co_nn rfl); (first | exact rfl | (simp; done)); exact rfl; exact (by first | exact ety_i64s | exact ety_u8s); exact (by first | exact es_i64s | exact es_u8s); exact (by first | exact zl_i64 | exact zl_u8); exact (by first | exact by_i64s | exact by_u8s); (first | exact sz_map (fun _ => rfl) | exact sz_lit rfl))
    | (apply aBox (hd := rfl) (hro := rfl); exact rfl; exact rfl)
    | (apply aAlloc (hd := rfl) (hro := rfl); exact (by first | exact zo_i64))
    | apply ay (hd := rfl)
    | (apply Y_move_d; exact rfl)
    | (apply Y_assign_d; exact rfl)
    | (apply Y_field_r; exact rfl; exact (by first | exact rfl))
    | (apply Y_load_r1; exact rfl; exact (by first | exact tc_i64))
    | (apply Y_load_r; exact rfl; exact (by first | exact tc_i64); exact rfl)
    | (apply Y_len_m; exact rfl; exact (by first | exact et_i64s | exact et_u8s))
    | (apply Y_len_d; exact rfl; exact (by first | exact et_i64s | exact et_u8s))
    | (apply Y_lss; exact rfl; exact rfl)
    | (apply Y_leq; exact rfl; exact rfl)
    | (apply Y_gtr; exact rfl; exact rfl)
    | (apply Y_geq; exact rfl; exact rfl)
    | (apply Y_eql; exact rfl; exact rfl)
    | (apply Y_neq; exact rfl; exact rfl)
    | (apply Y_add; exact rfl; exact rfl)
    | (apply Y_sub; exact rfl; exact rfl)
    | (apply Y_mul; exact rfl; exact rfl)
    | (apply Y_not; exact rfl)
    | (apply Y_pick_t; exact rfl; exact rfl)
    | (apply Y_pick_f; exact rfl; exact rfl)
    | (apply Y_extract; exact rfl; exact rfl)
    | (apply Y_max; exact rfl; exact rfl)
    | (apply Y_move_nil; exact rfl)
    | (apply Y_assign_nil; exact rfl)
    | (apply Y_move_buf; exact rfl)
    | (apply Y_assign_buf; exact rfl)
    | (apply Y_len_buf; exact rfl; exact (by first | exact et_i64s | exact et_u8s))
    | (apply Y_len_nil; exact rfl; exact (by first | exact et_i64s | exact et_u8s))
    | (apply Y_move_ptr; exact rfl)
    | (apply Y_assign_ptr; exact rfl)
    | (apply Y_move_clo; exact rfl)
    | (apply Y_assign_clo; exact rfl)
    | (apply Y_field_p; exact rfl; exact (by first | exact rfl))
    | (apply Y_load_p; exact rfl; exact (by first | exact tc_i64); exact rfl; exact rfl)
    | (apply Y_load_pa; exact rfl; exact (by first | exact tc_i64); exact rfl; exact rfl; exact rfl)
    | (apply Y_sl; (first | exact Co_dd rfl | exact Co_bb rfl rfl rfl | exact Co_nn rfl); exact (by first | exact es_i64s | exact es_u8s); exact rfl; exact rfl; exact fun _ => rfl)
    | (apply Y_sl_l; (first | exact Co_dd rfl | exact Co_bb rfl rfl rfl | exact Co_nn rfl); exact (by first | exact es_i64s | exact es_u8s); exact rfl; exact fun _ => rfl)
    | (apply Y_sl_h; (first | exact Co_dd rfl | exact Co_bb rfl rfl rfl | exact Co_nn rfl); exact (by first | exact es_i64s | exact es_u8s); exact rfl; exact fun _ => rfl)
    | (apply Y_lit0; exact (by first | exact ety_i64s | exact ety_u8s); exact (by first | exact es_i64s | exact es_u8s); exact (by first | exact zs_i64 | exact zs_u8); exact rfl)
    | (apply Y_lit1; exact (by first | exact ety_i64s | exact ety_u8s); exact (by first | exact es_i64s | exact es_u8s); exact (by first | exact zs_i64 | exact zs_u8); exact rfl; exact rfl; (first | exact CoL_d rfl CoL_nil | exact CoL_b rfl rfl rfl CoL_nil | exact CoL_n rfl CoL_nil); exact rfl)
    | (apply Y_lit2; exact (by first | exact ety_i64s | exact ety_u8s); exact (by first | exact es_i64s | exact es_u8s); exact (by first | exact zs_i64 | exact zs_u8); exact rfl; exact rfl; (first | exact CoL_d rfl (CoL_d rfl CoL_nil) | exact CoL_b rfl rfl rfl (CoL_b rfl rfl rfl CoL_nil)); exact rfl)
    | (apply Y_lit3; exact (by first | exact ety_i64s | exact ety_u8s); exact (by first | exact es_i64s | exact es_u8s); exact (by first | exact zs_i64 | exact zs_u8); exact rfl; exact rfl; (exact CoL_d rfl (CoL_d rfl (CoL_d rfl CoL_nil))); exact rfl)
    | (apply Y_lit4; exact (by first | exact ety_i64s | exact ety_u8s); exact (by first | exact es_i64s | exact es_u8s); exact (by first | exact zs_i64 | exact zs_u8); exact rfl; exact rfl; (exact CoL_d rfl (CoL_d rfl (CoL_d rfl (CoL_d rfl CoL_nil)))); exact rfl)
    | (apply Y_mkf; exact rfl)
    | (apply w1; exact rfl; exact rfl)
    | (apply k1 (hd := rfl); exact rfl; exact rfl)
    | (apply k0 (hd := rfl); exact rfl; exact rfl)
    | (apply gD; exact rfl; exact rfl; (intro hb); rotate_left; (intro hb); rotate_right)
    | (apply gN; exact rfl; exact rfl; (intro hb); rotate_left; (intro hb); rotate_right)
    | (apply g1; exact rfl; exact rfl; (intro hb); rotate_left; (intro hb); rotate_right)
    | (refine w0' ?_)
    | (apply aStore; exact rfl; exact rfl; exact rfl; exact (by first | exact tc_i64); exact rfl; exact rfl; exact rfl; exact rfl)
    | (apply awp_condD; exact rfl; (intro hb); rotate_left; (intro hb); rotate_right)
    | (apply awp_condN; exact rfl; (intro hb); rotate_left; (intro hb); rotate_right)
    | (apply awp_condT; exact rfl)
    | (apply awp_condF; exact rfl)
    | (apply awp_cond; exact rfl; (intro hb); rotate_left; (intro hb); rotate_right)
    | refine awp_block ?_
    | refine awp_skip ?_
    | refine awp_ret ?_
    | refine awp_exit ?_
    | refine awp_label ?_
    | refine awp_goto ?_
    | refine awp_draw (by kernel_rfl) (by kernel_rfl) ?_
    | refine en_r ?_
    | refine en_e ?_
    | refine eb_n ?_
    | refine eb_r ?_
    | refine eb_e ?_
    | refine eb_o rfl ?_
    | refine en_g ?_
    | refine eb_g ?_
    | refine ej_n ?_
    | refine ej_r ?_
    | refine ej_e ?_
    | refine ej_g ?_
    | refine rpost_ret ?_
    | (apply res1; exact rfl)
    | (apply res1n; exact rfl)
    | (apply res1b; exact rfl; exact rfl; (first | exact rfl | (simp; done)))
    | (apply res2; exact rfl; exact rfl)
    | (apply res2n; exact rfl; exact rfl)
    | (apply res2b; exact rfl; exact rfl; (first | exact rfl | (simp; done)); exact rfl)
    | exact CoL_nil
    | refine CoL_d rfl ?_
    | refine CoL_b rfl rfl rfl ?_
    | refine CoL_n rfl ?_
    | refine CoL_v rfl ?_
  refine i64_eq ?_
  rw [wrap_u64, wrap_u64, wrap_u64, ← Int.mul_emod, wrap_i64, W, W]
  omega

theorem take_sum {L : List Int} {i : Nat} {v : Int} (h : L[i]? = some v) : (L.take (i + 1)).sum = (L.take i).sum + v := by
  rw [List.take_add_one, h, List.sum_append]; simp

theorem wSum_ok (L : List Int) (hL : L.length ≤ 1000000) : PCall Tryd.prog 27 [ints L] (i64 (W L.sum)) := by
  refine pcall_of Tryd.func27 rfl Tryd.ntmps27 Tryd.results27 rfl ?_
  intro wb St0
  repeat' first
    | refine en_n ?_
    | refine awp_seq ?_
    | refine awp_region ?_
    | refine alex_nil ?_
    | refine w0 ?_
    | (apply Y_conv; exact rfl; (first
    | exact si64
    | exact su64
    | exact su8
    | exact si32); (first
    | exact ui64
    | exact uu64
    | exact uu8
    | exact ui32))
    | (apply Y_shl; exact rfl; exact rfl; exact (by decide))
    | (apply Y_shr; exact rfl; exact rfl; exact (by decide))
    | (apply Y_addw (k := .u64); exact rfl; exact rfl)
    | (apply Y_subw (k := .u64); exact rfl; exact rfl)
    | (apply Y_mulw (k := .u64); exact rfl; exact rfl)
    | (apply Y_neg; exact rfl)
    | (apply Y_neqb; exact rfl; exact rfl; exact ubool)
    | (apply Y_eqlb; exact rfl; exact rfl; exact ubool)
    | (apply aJ (hd := rfl); (first | exact Co_dd rfl | exact Co_bb rfl rfl rfl | exact Co_nn rfl); exact rfl; exact (by first | exact es_i64s | exact es_u8s); assumption; omega; exact fun _ => rfl)
    | (apply aI (hd := rfl); (first | exact Co_dd rfl | exact Co_bb rfl rfl rfl | exact Co_nn rfl); exact rfl; exact (by first | exact es_i64s | exact es_u8s); exact fun _ => rfl; rotate_left; intro v hv; rotate_right)
    | (apply aApp (hd := rfl) (hro := rfl); exact rfl; exact rfl; (first | exact Co_dd rfl | exact Co_bb rfl rfl rfl | exact Co_nn rfl); (first | exact rfl | (simp; done)); exact rfl; exact (by first | exact ety_i64s | exact ety_u8s); exact (by first | exact es_i64s | exact es_u8s); exact (by first | exact zl_i64 | exact zl_u8); exact (by first | exact by_i64s | exact by_u8s); (first | exact sz_map (fun _ => rfl) | exact sz_lit rfl))
    | (apply aBox (hd := rfl) (hro := rfl); exact rfl; exact rfl)
    | (apply aAlloc (hd := rfl) (hro := rfl); exact (by first | exact zo_i64))
    | apply ay (hd := rfl)
    | (apply Y_move_d; exact rfl)
    | (apply Y_assign_d; exact rfl)
    | (apply Y_field_r; exact rfl; exact (by first | exact rfl))
    | (apply Y_load_r1; exact rfl; exact (by first | exact tc_i64))
    | (apply Y_load_r; exact rfl; exact (by first | exact tc_i64); exact rfl)
    | (apply Y_len_m; exact rfl; exact (by first | exact et_i64s | exact et_u8s))
    | (apply Y_len_d; exact rfl; exact (by first | exact et_i64s | exact et_u8s))
    | (apply Y_lss; exact rfl; exact rfl)
    | (apply Y_leq; exact rfl; exact rfl)
    | (apply Y_gtr; exact rfl; exact rfl)
    | (apply Y_geq; exact rfl; exact rfl)
    | (apply Y_eql; exact rfl; exact rfl)
    | (apply Y_neq; exact rfl; exact rfl)
    | (apply Y_add; exact rfl; exact rfl)
    | (apply Y_sub; exact rfl; exact rfl)
    | (apply Y_mul; exact rfl; exact rfl)
    | (apply Y_not; exact rfl)
    | (apply Y_pick_t; exact rfl; exact rfl)
    | (apply Y_pick_f; exact rfl; exact rfl)
    | (apply Y_extract; exact rfl; exact rfl)
    | (apply Y_max; exact rfl; exact rfl)
    | (apply Y_move_nil; exact rfl)
    | (apply Y_assign_nil; exact rfl)
    | (apply Y_move_buf; exact rfl)
    | (apply Y_assign_buf; exact rfl)
    | (apply Y_len_buf; exact rfl; exact (by first | exact et_i64s | exact et_u8s))
    | (apply Y_len_nil; exact rfl; exact (by first | exact et_i64s | exact et_u8s))
    | (apply Y_move_ptr; exact rfl)
    | (apply Y_assign_ptr; exact rfl)
    | (apply Y_move_clo; exact rfl)
    | (apply Y_assign_clo; exact rfl)
    | (apply Y_field_p; exact rfl; exact (by first | exact rfl))
    | (apply Y_load_p; exact rfl; exact (by first | exact tc_i64); exact rfl; exact rfl)
    | (apply Y_load_pa; exact rfl; exact (by first | exact tc_i64); exact rfl; exact rfl; exact rfl)
    | (apply Y_sl; (first | exact Co_dd rfl | exact Co_bb rfl rfl rfl | exact Co_nn rfl); exact (by first | exact es_i64s | exact es_u8s); exact rfl; exact rfl; exact fun _ => rfl)
    | (apply Y_sl_l; (first | exact Co_dd rfl | exact Co_bb rfl rfl rfl | exact Co_nn rfl); exact (by first | exact es_i64s | exact es_u8s); exact rfl; exact fun _ => rfl)
    | (apply Y_sl_h; (first | exact Co_dd rfl | exact Co_bb rfl rfl rfl | exact Co_nn rfl); exact (by first | exact es_i64s | exact es_u8s); exact rfl; exact fun _ => rfl)
    | (apply Y_lit0; exact (by first | exact ety_i64s | exact ety_u8s); exact (by first | exact es_i64s | exact es_u8s); exact (by first | exact zs_i64 | exact zs_u8); exact rfl)
    | (apply Y_lit1; exact (by first | exact ety_i64s | exact ety_u8s); exact (by first | exact es_i64s | exact es_u8s); exact (by first | exact zs_i64 | exact zs_u8); exact rfl; exact rfl; (first | exact CoL_d rfl CoL_nil | exact CoL_b rfl rfl rfl CoL_nil | exact CoL_n rfl CoL_nil); exact rfl)
    | (apply Y_lit2; exact (by first | exact ety_i64s | exact ety_u8s); exact (by first | exact es_i64s | exact es_u8s); exact (by first | exact zs_i64 | exact zs_u8); exact rfl; exact rfl; (first | exact CoL_d rfl (CoL_d rfl CoL_nil) | exact CoL_b rfl rfl rfl (CoL_b rfl rfl rfl CoL_nil)); exact rfl)
    | (apply Y_lit3; exact (by first | exact ety_i64s | exact ety_u8s); exact (by first | exact es_i64s | exact es_u8s); exact (by first | exact zs_i64 | exact zs_u8); exact rfl; exact rfl; (exact CoL_d rfl (CoL_d rfl (CoL_d rfl CoL_nil))); exact rfl)
    | (apply Y_lit4; exact (by first | exact ety_i64s | exact ety_u8s); exact (by first | exact es_i64s | exact es_u8s); exact (by first | exact zs_i64 | exact zs_u8); exact rfl; exact rfl; (exact CoL_d rfl (CoL_d rfl (CoL_d rfl (CoL_d rfl CoL_nil)))); exact rfl)
    | (apply Y_mkf; exact rfl)
    | (apply w1; exact rfl; exact rfl)
    | (apply k1 (hd := rfl); exact rfl; exact rfl)
    | (apply k0 (hd := rfl); exact rfl; exact rfl)
    | (apply gD; exact rfl; exact rfl; (intro hb); rotate_left; (intro hb); rotate_right)
    | (apply gN; exact rfl; exact rfl; (intro hb); rotate_left; (intro hb); rotate_right)
    | (apply g1; exact rfl; exact rfl; (intro hb); rotate_left; (intro hb); rotate_right)
    | (refine w0' ?_)
    | (apply aStore; exact rfl; exact rfl; exact rfl; exact (by first | exact tc_i64); exact rfl; exact rfl; exact rfl; exact rfl)
    | (apply awp_condD; exact rfl; (intro hb); rotate_left; (intro hb); rotate_right)
    | (apply awp_condN; exact rfl; (intro hb); rotate_left; (intro hb); rotate_right)
    | (apply awp_condT; exact rfl)
    | (apply awp_condF; exact rfl)
    | (apply awp_cond; exact rfl; (intro hb); rotate_left; (intro hb); rotate_right)
    | refine awp_block ?_
    | refine awp_skip ?_
    | refine awp_ret ?_
    | refine awp_exit ?_
    | refine awp_label ?_
    | refine awp_goto ?_
    | refine awp_draw (by kernel_rfl) (by kernel_rfl) ?_
    | refine en_r ?_
    | refine en_e ?_
    | refine eb_n ?_
    | refine eb_r ?_
    | refine eb_e ?_
    | refine eb_o rfl ?_
    | refine en_g ?_
    | refine eb_g ?_
    | refine ej_n ?_
    | refine ej_r ?_
    | refine ej_e ?_
    | refine ej_g ?_
    | refine rpost_ret ?_
    | (apply res1; exact rfl)
    | (apply res1n; exact rfl)
    | (apply res1b; exact rfl; exact rfl; (first | exact rfl | (simp; done)))
    | (apply res2; exact rfl; exact rfl)
    | (apply res2n; exact rfl; exact rfl)
    | (apply res2b; exact rfl; exact rfl; (first | exact rfl | (simp; done)); exact rfl)
    | exact CoL_nil
    | refine CoL_d rfl ?_
    | refine CoL_b rfl rfl rfl ?_
    | refine CoL_n rfl ?_
    | refine CoL_v rfl ?_
  refine awp_loopF (α := Nat) (fun i => i ≤ L.length) (fun i => [(3, .d (u64 ((L.take i).sum % 18446744073709551616))), (6, .d (ints L)), (7, .d (i64 (L.length : Int))), (8, .d (i64 (i : Int)))]) (fun _ => []) (fun i => L.length - i) 0 (Nat.zero_le _)
      (Fits_mk (Le_d rfl (by simp) (Le_cons rfl (Le_cons rfl (Le_cons rfl Le_nil)))) Pre_nil rfl rfl) ?_
  rintro i hi
  repeat' first
    | refine en_n ?_
    | refine awp_seq ?_
    | refine awp_region ?_
    | refine alex_nil ?_
    | refine w0 ?_
    | (apply Y_conv; exact rfl; (first
    | exact si64
    | exact su64
    | exact su8
    | exact si32); (first
    | exact ui64
    | exact uu64
    | exact uu8
    | exact ui32))
    | (apply Y_shl; exact rfl; exact rfl; exact (by decide))
    | (apply Y_shr; exact rfl; exact rfl; exact (by decide))
    | (apply Y_addw (k := .u64); exact rfl; exact rfl)
    | (apply Y_subw (k := .u64); exact rfl; exact rfl)
    | (apply Y_mulw (k := .u64); exact rfl; exact rfl)
    | (apply Y_neg; exact rfl)
    | (apply Y_neqb; exact rfl; exact rfl; exact ubool)
    | (apply Y_eqlb; exact rfl; exact rfl; exact ubool)
    | (refine Y_call hb_wWrap (wWrap_ok _) (CoL_d rfl CoL_nil))
    | (apply aJ (hd := rfl); (first | exact Co_dd rfl | exact Co_bb rfl rfl rfl | exact Co_nn rfl); exact rfl; exact (by first | exact es_i64s | exact es_u8s); assumption; omega; exact fun _ => rfl)
    | (apply aI (hd := rfl); (first | exact Co_dd rfl | exact Co_bb rfl rfl rfl | exact Co_nn rfl); exact rfl; exact (by first | exact es_i64s | exact es_u8s); exact fun _ => rfl; rotate_left; intro v hv; rotate_right)
    | (apply aApp (hd := rfl) (hro := rfl); exact rfl; exact rfl; (first | exact Co_dd rfl | exact Co_bb rfl rfl rfl | exact Co_nn rfl); (first | exact rfl | (simp; done)); exact rfl; exact (by first | exact ety_i64s | exact ety_u8s); exact (by first | exact es_i64s | exact es_u8s); exact (by first | exact zl_i64 | exact zl_u8); exact (by first | exact by_i64s | exact by_u8s); (first | exact sz_map (fun _ => rfl) | exact sz_lit rfl))
    | (apply aBox (hd := rfl) (hro := rfl); exact rfl; exact rfl)
    | (apply aAlloc (hd := rfl) (hro := rfl); exact (by first | exact zo_i64))
    | apply ay (hd := rfl)
    | (apply Y_move_d; exact rfl)
    | (apply Y_assign_d; exact rfl)
    | (apply Y_field_r; exact rfl; exact (by first | exact rfl))
    | (apply Y_load_r1; exact rfl; exact (by first | exact tc_i64))
    | (apply Y_load_r; exact rfl; exact (by first | exact tc_i64); exact rfl)
    | (apply Y_len_m; exact rfl; exact (by first | exact et_i64s | exact et_u8s))
    | (apply Y_len_d; exact rfl; exact (by first | exact et_i64s | exact et_u8s))
    | (apply Y_lss; exact rfl; exact rfl)
    | (apply Y_leq; exact rfl; exact rfl)
    | (apply Y_gtr; exact rfl; exact rfl)
    | (apply Y_geq; exact rfl; exact rfl)
    | (apply Y_eql; exact rfl; exact rfl)
    | (apply Y_neq; exact rfl; exact rfl)
    | (apply Y_add; exact rfl; exact rfl)
    | (apply Y_sub; exact rfl; exact rfl)
    | (apply Y_mul; exact rfl; exact rfl)
    | (apply Y_not; exact rfl)
    | (apply Y_pick_t; exact rfl; exact rfl)
    | (apply Y_pick_f; exact rfl; exact rfl)
    | (apply Y_extract; exact rfl; exact rfl)
    | (apply Y_max; exact rfl; exact rfl)
    | (apply Y_move_nil; exact rfl)
    | (apply Y_assign_nil; exact rfl)
    | (apply Y_move_buf; exact rfl)
    | (apply Y_assign_buf; exact rfl)
    | (apply Y_len_buf; exact rfl; exact (by first | exact et_i64s | exact et_u8s))
    | (apply Y_len_nil; exact rfl; exact (by first | exact et_i64s | exact et_u8s))
    | (apply Y_move_ptr; exact rfl)
    | (apply Y_assign_ptr; exact rfl)
    | (apply Y_move_clo; exact rfl)
    | (apply Y_assign_clo; exact rfl)
    | (apply Y_field_p; exact rfl; exact (by first | exact rfl))
    | (apply Y_load_p; exact rfl; exact (by first | exact tc_i64); exact rfl; exact rfl)
    | (apply Y_load_pa; exact rfl; exact (by first | exact tc_i64); exact rfl; exact rfl; exact rfl)
    | (apply Y_sl; (first | exact Co_dd rfl | exact Co_bb rfl rfl rfl | exact Co_nn rfl); exact (by first | exact es_i64s | exact es_u8s); exact rfl; exact rfl; exact fun _ => rfl)
    | (apply Y_sl_l; (first | exact Co_dd rfl | exact Co_bb rfl rfl rfl | exact Co_nn rfl); exact (by first | exact es_i64s | exact es_u8s); exact rfl; exact fun _ => rfl)
    | (apply Y_sl_h; (first | exact Co_dd rfl | exact Co_bb rfl rfl rfl | exact Co_nn rfl); exact (by first | exact es_i64s | exact es_u8s); exact rfl; exact fun _ => rfl)
    | (apply Y_lit0; exact (by first | exact ety_i64s | exact ety_u8s); exact (by first | exact es_i64s | exact es_u8s); exact (by first | exact zs_i64 | exact zs_u8); exact rfl)
    | (apply Y_lit1; exact (by first | exact ety_i64s | exact ety_u8s); exact (by first | exact es_i64s | exact es_u8s); exact (by first | exact zs_i64 | exact zs_u8); exact rfl; exact rfl; (first | exact CoL_d rfl CoL_nil | exact CoL_b rfl rfl rfl CoL_nil | exact CoL_n rfl CoL_nil); exact rfl)
    | (apply Y_lit2; exact (by first | exact ety_i64s | exact ety_u8s); exact (by first | exact es_i64s | exact es_u8s); exact (by first | exact zs_i64 | exact zs_u8); exact rfl; exact rfl; (first | exact CoL_d rfl (CoL_d rfl CoL_nil) | exact CoL_b rfl rfl rfl (CoL_b rfl rfl rfl CoL_nil)); exact rfl)
    | (apply Y_lit3; exact (by first | exact ety_i64s | exact ety_u8s); exact (by first | exact es_i64s | exact es_u8s); exact (by first | exact zs_i64 | exact zs_u8); exact rfl; exact rfl; (exact CoL_d rfl (CoL_d rfl (CoL_d rfl CoL_nil))); exact rfl)
    | (apply Y_lit4; exact (by first | exact ety_i64s | exact ety_u8s); exact (by first | exact es_i64s | exact es_u8s); exact (by first | exact zs_i64 | exact zs_u8); exact rfl; exact rfl; (exact CoL_d rfl (CoL_d rfl (CoL_d rfl (CoL_d rfl CoL_nil)))); exact rfl)
    | (apply Y_mkf; exact rfl)
    | (apply w1; exact rfl; exact rfl)
    | (apply k1 (hd := rfl); exact rfl; exact rfl)
    | (apply k0 (hd := rfl); exact rfl; exact rfl)
    | (apply gD; exact rfl; exact rfl; (intro hb); rotate_left; (intro hb); rotate_right)
    | (apply gN; exact rfl; exact rfl; (intro hb); rotate_left; (intro hb); rotate_right)
    | (apply g1; exact rfl; exact rfl; (intro hb); rotate_left; (intro hb); rotate_right)
    | (refine w0' ?_)
    | (apply aStore; exact rfl; exact rfl; exact rfl; exact (by first | exact tc_i64); exact rfl; exact rfl; exact rfl; exact rfl)
    | (apply awp_condD; exact rfl; (intro hb); rotate_left; (intro hb); rotate_right)
    | (apply awp_condN; exact rfl; (intro hb); rotate_left; (intro hb); rotate_right)
    | (apply awp_condT; exact rfl)
    | (apply awp_condF; exact rfl)
    | (apply awp_cond; exact rfl; (intro hb); rotate_left; (intro hb); rotate_right)
    | refine awp_block ?_
    | refine awp_skip ?_
    | refine awp_ret ?_
    | refine awp_exit ?_
    | refine awp_label ?_
    | refine awp_goto ?_
    | refine awp_draw (by kernel_rfl) (by kernel_rfl) ?_
    | refine en_r ?_
    | refine en_e ?_
    | refine eb_n ?_
    | refine eb_r ?_
    | refine eb_e ?_
    | refine eb_o rfl ?_
    | refine en_g ?_
    | refine eb_g ?_
    | refine ej_n ?_
    | refine ej_r ?_
    | refine ej_e ?_
    | refine ej_g ?_
    | refine rpost_ret ?_
    | (apply res1; exact rfl)
    | (apply res1n; exact rfl)
    | (apply res1b; exact rfl; exact rfl; (first | exact rfl | (simp; done)))
    | (apply res2; exact rfl; exact rfl)
    | (apply res2n; exact rfl; exact rfl)
    | (apply res2b; exact rfl; exact rfl; (first | exact rfl | (simp; done)); exact rfl)
    | exact CoL_nil
    | refine CoL_d rfl ?_
    | refine CoL_b rfl rfl rfl ?_
    | refine CoL_n rfl ?_
    | refine CoL_v rfl ?_
  · omega
  · omega
  · refine ⟨i + 1, by omega, by omega, Fits_mk (Le_d rfl (u64_eq ?_).symm (Le_cons rfl (Le_cons rfl (Le_cons rfl Le_nil)))) Pre_nil rfl rfl⟩
    rw [take_sum (i := i) hv, wrap_u64, wrap_u64]
    omega
  · refine i64_eq ?_
    have : L.take i = L := List.take_of_length_le (by omega)
    rw [this, wrap_i64, W, W]
    omega

theorem wAdd_ok (a b : Int) : PCall Tryd.prog 13 [i64 a, i64 b] (i64 (W (a + b))) := by
  refine pcall_of Tryd.func13 rfl Tryd.ntmps13 Tryd.results13 rfl ?_
  intro wb St0
  repeat' first
    | refine en_n ?_
    | refine awp_seq ?_
    | refine awp_region ?_
    | refine alex_nil ?_
    | refine w0 ?_
    | (apply Y_conv; exact rfl; (first
    | exact si64
    | exact su64
    | exact su8
    | exact si32); (first
    | exact ui64
    | exact uu64
    | exact uu8
    | exact ui32))
    | (apply Y_shl; exact rfl; exact rfl; exact (by decide))
    | (apply Y_shr; exact rfl; exact rfl; exact (by decide))
    | (apply Y_addw (k := .u64); exact rfl; exact rfl)
    | (apply Y_subw (k := .u64); exact rfl; exact rfl)
    | (apply Y_mulw (k := .u64); exact rfl; exact rfl)
    | (apply Y_neg; exact rfl)
    | (apply Y_neqb; exact rfl; exact rfl; exact ubool)
    | (apply Y_eqlb; exact rfl; exact rfl; exact ubool)
    | (refine Y_call hb_wSum (wSum_ok [a, b] (by simp)) (CoL_d rfl CoL_nil))
    | (apply aJ (hd := rfl); (first | exact Co_dd rfl | exact Co_bb rfl rfl rfl | exact Co_nn rfl); exact rfl; exact (by first | exact es_i64s | exact es_u8s); assumption; omega; exact fun _ => rfl)
    | (apply aI (hd := rfl); (first | exact Co_dd rfl | exact Co_bb rfl rfl rfl | exact Co_nn rfl); exact rfl; exact (by first | exact es_i64s | exact es_u8s); exact fun _ => rfl; rotate_left; intro v hv; rotate_right)
    | (apply aApp (hd := rfl) (hro := rfl); exact rfl; exact rfl; (first | exact Co_dd rfl | exact Co_bb rfl rfl rfl | exact Co_nn rfl); (first | exact rfl | (simp; done)); exact rfl; exact (by first | exact ety_i64s | exact ety_u8s); exact (by first | exact es_i64s | exact es_u8s); exact (by first | exact zl_i64 | exact zl_u8); exact (by first | exact by_i64s | exact by_u8s); (first | exact sz_map (fun _ => rfl) | exact sz_lit rfl))
    | (apply aBox (hd := rfl) (hro := rfl); exact rfl; exact rfl)
    | (apply aAlloc (hd := rfl) (hro := rfl); exact (by first | exact zo_i64))
    | apply ay (hd := rfl)
    | (apply Y_move_d; exact rfl)
    | (apply Y_assign_d; exact rfl)
    | (apply Y_field_r; exact rfl; exact (by first | exact rfl))
    | (apply Y_load_r1; exact rfl; exact (by first | exact tc_i64))
    | (apply Y_load_r; exact rfl; exact (by first | exact tc_i64); exact rfl)
    | (apply Y_len_m; exact rfl; exact (by first | exact et_i64s | exact et_u8s))
    | (apply Y_len_d; exact rfl; exact (by first | exact et_i64s | exact et_u8s))
    | (apply Y_lss; exact rfl; exact rfl)
    | (apply Y_leq; exact rfl; exact rfl)
    | (apply Y_gtr; exact rfl; exact rfl)
    | (apply Y_geq; exact rfl; exact rfl)
    | (apply Y_eql; exact rfl; exact rfl)
    | (apply Y_neq; exact rfl; exact rfl)
    | (apply Y_add; exact rfl; exact rfl)
    | (apply Y_sub; exact rfl; exact rfl)
    | (apply Y_mul; exact rfl; exact rfl)
    | (apply Y_not; exact rfl)
    | (apply Y_pick_t; exact rfl; exact rfl)
    | (apply Y_pick_f; exact rfl; exact rfl)
    | (apply Y_extract; exact rfl; exact rfl)
    | (apply Y_max; exact rfl; exact rfl)
    | (apply Y_move_nil; exact rfl)
    | (apply Y_assign_nil; exact rfl)
    | (apply Y_move_buf; exact rfl)
    | (apply Y_assign_buf; exact rfl)
    | (apply Y_len_buf; exact rfl; exact (by first | exact et_i64s | exact et_u8s))
    | (apply Y_len_nil; exact rfl; exact (by first | exact et_i64s | exact et_u8s))
    | (apply Y_move_ptr; exact rfl)
    | (apply Y_assign_ptr; exact rfl)
    | (apply Y_move_clo; exact rfl)
    | (apply Y_assign_clo; exact rfl)
    | (apply Y_field_p; exact rfl; exact (by first | exact rfl))
    | (apply Y_load_p; exact rfl; exact (by first | exact tc_i64); exact rfl; exact rfl)
    | (apply Y_load_pa; exact rfl; exact (by first | exact tc_i64); exact rfl; exact rfl; exact rfl)
    | (apply Y_sl; (first | exact Co_dd rfl | exact Co_bb rfl rfl rfl | exact Co_nn rfl); exact (by first | exact es_i64s | exact es_u8s); exact rfl; exact rfl; exact fun _ => rfl)
    | (apply Y_sl_l; (first | exact Co_dd rfl | exact Co_bb rfl rfl rfl | exact Co_nn rfl); exact (by first | exact es_i64s | exact es_u8s); exact rfl; exact fun _ => rfl)
    | (apply Y_sl_h; (first | exact Co_dd rfl | exact Co_bb rfl rfl rfl | exact Co_nn rfl); exact (by first | exact es_i64s | exact es_u8s); exact rfl; exact fun _ => rfl)
    | (apply Y_lit0; exact (by first | exact ety_i64s | exact ety_u8s); exact (by first | exact es_i64s | exact es_u8s); exact (by first | exact zs_i64 | exact zs_u8); exact rfl)
    | (apply Y_lit1; exact (by first | exact ety_i64s | exact ety_u8s); exact (by first | exact es_i64s | exact es_u8s); exact (by first | exact zs_i64 | exact zs_u8); exact rfl; exact rfl; (first | exact CoL_d rfl CoL_nil | exact CoL_b rfl rfl rfl CoL_nil | exact CoL_n rfl CoL_nil); exact rfl)
    | (apply Y_lit2; exact (by first | exact ety_i64s | exact ety_u8s); exact (by first | exact es_i64s | exact es_u8s); exact (by first | exact zs_i64 | exact zs_u8); exact rfl; exact rfl; (first | exact CoL_d rfl (CoL_d rfl CoL_nil) | exact CoL_b rfl rfl rfl (CoL_b rfl rfl rfl CoL_nil)); exact rfl)
    | (apply Y_lit3; exact (by first | exact ety_i64s | exact ety_u8s); exact (by first | exact es_i64s | exact es_u8s); exact (by first | exact zs_i64 | exact zs_u8); exact rfl; exact rfl; (exact CoL_d rfl (CoL_d rfl (CoL_d rfl CoL_nil))); exact rfl)
    | (apply Y_lit4; exact (by first | exact ety_i64s | exact ety_u8s); exact (by first | exact es_i64s | exact es_u8s); exact (by first | exact zs_i64 | exact zs_u8); exact rfl; exact rfl; (exact CoL_d rfl (CoL_d rfl (CoL_d rfl (CoL_d rfl CoL_nil)))); exact rfl)
    | (apply Y_mkf; exact rfl)
    | (apply w1; exact rfl; exact rfl)
    | (apply k1 (hd := rfl); exact rfl; exact rfl)
    | (apply k0 (hd := rfl); exact rfl; exact rfl)
    | (apply gD; exact rfl; exact rfl; (intro hb); rotate_left; (intro hb); rotate_right)
    | (apply gN; exact rfl; exact rfl; (intro hb); rotate_left; (intro hb); rotate_right)
    | (apply g1; exact rfl; exact rfl; (intro hb); rotate_left; (intro hb); rotate_right)
    | (refine w0' ?_)
    | (apply aStore; exact rfl; exact rfl; exact rfl; exact (by first | exact tc_i64); exact rfl; exact rfl; exact rfl; exact rfl)
    | (apply awp_condD; exact rfl; (intro hb); rotate_left; (intro hb); rotate_right)
    | (apply awp_condN; exact rfl; (intro hb); rotate_left; (intro hb); rotate_right)
    | (apply awp_condT; exact rfl)
    | (apply awp_condF; exact rfl)
    | (apply awp_cond; exact rfl; (intro hb); rotate_left; (intro hb); rotate_right)
    | refine awp_block ?_
    | refine awp_skip ?_
    | refine awp_ret ?_
    | refine awp_exit ?_
    | refine awp_label ?_
    | refine awp_goto ?_
    | refine awp_draw (by kernel_rfl) (by kernel_rfl) ?_
    | refine en_r ?_
    | refine en_e ?_
    | refine eb_n ?_
    | refine eb_r ?_
    | refine eb_e ?_
    | refine eb_o rfl ?_
    | refine en_g ?_
    | refine eb_g ?_
    | refine ej_n ?_
    | refine ej_r ?_
    | refine ej_e ?_
    | refine ej_g ?_
    | refine rpost_ret ?_
    | (apply res1; exact rfl)
    | (apply res1n; exact rfl)
    | (apply res1b; exact rfl; exact rfl; (first | exact rfl | (simp; done)))
    | (apply res2; exact rfl; exact rfl)
    | (apply res2n; exact rfl; exact rfl)
    | (apply res2b; exact rfl; exact rfl; (first | exact rfl | (simp; done)); exact rfl)
    | exact CoL_nil
    | refine CoL_d rfl ?_
    | refine CoL_b rfl rfl rfl ?_
    | refine CoL_n rfl ?_
    | refine CoL_v rfl ?_
  refine i64_eq ?_
  simp
end Go.Proofs.YtbegnjhfhnaagaaDoor
