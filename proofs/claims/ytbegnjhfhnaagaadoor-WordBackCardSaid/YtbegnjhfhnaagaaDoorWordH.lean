/- The word statements: the chapter's examples hold. -/
import Derived.Test.YtbegnjhfhnaagaaDoorWordG
namespace Go.Proofs.YtbegnjhfhnaagaaDoor
open Go.Sx
attribute [local irreducible] Ylds astep alex alexE alexD awp PCall FCall RCall athen ablock ajump rpost fpost

theorem x1 : divV (-7) 2 = -3 := by decide
theorem x2 : zeroE 2 = 0 := by decide
theorem x3 : modV (-7) 2 = -1 := by decide
theorem x4 : shw (W (-5)) = [126, 53] := by
  have : W (-5) = -5 := by decide
  rw [this, shw, if_pos (by decide), show (-5 : Int).natAbs = 5 from rfl, Lib.decDigits_one (by decide)]; rfl
theorem x5 : rdOk [126, 53] = true ∧ rdS [126, 53] = -5 := by
  have := rd_shw (-5) (by decide)
  have e : shw (-5) = [126, 53] := by have := x4; rwa [show W (-5) = -5 by decide] at this
  rwa [e] at this
theorem x6 : rdN [126, 53] = -5 := (rdN_yes x5.1).trans x5.2
theorem x7 : rdE [126, 53] = 0 := rdE_yes x5.1
theorem x8 : zeroE 0 = 10 := by decide
theorem x9 : W (4611686018427387903 + 1) = -4611686018427387904 := by decide
theorem x10 : W (3 * 4) = 12 := by decide
theorem x11 : W (3 - 4) = -1 := by decide
theorem x12 : W ([1, 2, 3] : List Int).sum = 6 := by decide
theorem x13 : W 7 = 7 := by decide

set_option maxHeartbeats 4000000 in
theorem awake_ok : PCall Tryd.prog 10 [] (bl true) := by
  refine pcall_of Tryd.func10 rfl Tryd.ntmps10 Tryd.results10 rfl ?_
  intro wb St0
  repeat' first
    | refine en_n ?_
    | refine awp_seq ?_
    | refine awp_region ?_
    | refine alex_nil ?_
    | refine w0 ?_
    | (refine Y_call hb_wDiv (wDiv_ok _ _) (CoL_d rfl (CoL_d rfl CoL_nil)))
    | (refine Y_call hb_wMod (wMod_ok _ _) (CoL_d rfl (CoL_d rfl CoL_nil)))
    | (refine Y_call hb_wRead (wRead_ok [126, 53] (by decide)) (CoL_d rfl CoL_nil))
    | (refine Y_call hb_wShow (wShow_ok _) (CoL_d rfl CoL_nil))
    | (refine Y_call hb_wAdd (wAdd_ok _ _) (CoL_d rfl (CoL_d rfl CoL_nil)))
    | (refine Y_call hb_wMul (wMul_ok _ _) (CoL_d rfl (CoL_d rfl CoL_nil)))
    | (refine Y_call hb_wSub (wSub_ok _ _) (CoL_d rfl (CoL_d rfl CoL_nil)))
    | (refine Y_call hb_wSum (wSum_ok [1, 2, 3] (by decide)) (CoL_d rfl CoL_nil))
    | (refine Y_call hb_wWrap (wWrap_ok _) (CoL_d rfl CoL_nil))
    | (apply Y_eqs; exact rfl; exact rfl)
    | (apply aJ (hd := rfl); (first | exact Co_dd rfl | exact Co_bb rfl rfl rfl | exact Co_nn rfl); exact rfl; exact (by first | exact es_i64s | exact es_u8s); assumption; omega; exact fun _ => rfl)
    | (apply aI (hd := rfl); (first | exact Co_dd rfl | exact Co_bb rfl rfl rfl | exact Co_nn rfl); exact rfl; exact (by first | exact es_i64s | exact es_u8s); exact fun _ => rfl; rotate_left; intro v hv; rotate_right)
    | (apply aApp (hd := rfl) (hro := rfl); exact rfl; exact rfl; (first | exact Co_dd rfl | exact Co_bb rfl rfl rfl | exact Co_nn rfl); (first | exact rfl | (simp; done)); exact rfl; exact (by first | exact ety_i64s | exact ety_u8s); exact (by first | exact es_i64s | exact es_u8s); exact (by first | exact zl_i64 | exact zl_u8); exact (by first | exact by_i64s | exact by_u8s); (first | exact sz_map (fun _ => rfl) | exact sz_lit rfl))
    | (apply aBox (hd := rfl) (hro := rfl); exact rfl; exact rfl)
    | (apply aAlloc (hd := rfl) (hro := rfl); exact (by first | exact zo_i64))
    | apply ay (hd := rfl)
    | (apply Y_move_d; exact rfl)
    | (apply Y_assign_d; exact rfl)
    | (apply Y_field_r; exact rfl; exact (by first | exact rfl))
    | (apply Y_load_r1; exact rfl; exact (by first | exact tc_i64))
    | (apply Y_load_r; exact rfl; exact (by first | exact tc_i64); exact rfl)
    | (apply Y_len_m; exact rfl; exact (by first | exact et_i64s | exact et_u8s))
    | (apply Y_len_d; exact rfl; exact (by first | exact et_i64s | exact et_u8s))
    | (apply Y_lss; exact rfl; exact rfl)
    | (apply Y_leq; exact rfl; exact rfl)
    | (apply Y_gtr; exact rfl; exact rfl)
    | (apply Y_geq; exact rfl; exact rfl)
    | (apply Y_eql; exact rfl; exact rfl)
    | (apply Y_neq; exact rfl; exact rfl)
    | (apply Y_add; exact rfl; exact rfl)
    | (apply Y_sub; exact rfl; exact rfl)
    | (apply Y_mul; exact rfl; exact rfl)
    | (apply Y_not; exact rfl)
    | (apply Y_pick_t; exact rfl; exact rfl)
    | (apply Y_pick_f; exact rfl; exact rfl)
    | (apply Y_extract; exact rfl; exact rfl)
    | (apply Y_max; exact rfl; exact rfl)
    | (apply Y_move_nil; exact rfl)
    | (apply Y_assign_nil; exact rfl)
    | (apply Y_move_buf; exact rfl)
    | (apply Y_assign_buf; exact rfl)
    | (apply Y_len_buf; exact rfl; exact (by first | exact et_i64s | exact et_u8s))
    | (apply Y_len_nil; exact rfl; exact (by first | exact et_i64s | exact et_u8s))
    | (apply Y_move_ptr; exact rfl)
    | (apply Y_assign_ptr; exact rfl)
    | (apply Y_move_clo; exact rfl)
    | (apply Y_assign_clo; exact rfl)
    | (apply Y_field_p; exact rfl; exact (by first | exact rfl))
    | (apply Y_load_p; exact rfl; exact (by first | exact tc_i64); exact rfl; exact rfl)
    | (apply Y_load_pa; exact rfl; exact (by first | exact tc_i64); exact rfl; exact rfl; exact rfl)
    | (apply Y_sl; (first | exact Co_dd rfl | exact Co_bb rfl rfl rfl | exact Co_nn rfl); exact (by first | exact es_i64s | exact es_u8s); exact rfl; exact rfl; exact fun _ => rfl)
    | (apply Y_sl_l; (first | exact Co_dd rfl | exact Co_bb rfl rfl rfl | exact Co_nn rfl); exact (by first | exact es_i64s | exact es_u8s); exact rfl; exact fun _ => rfl)
    | (apply Y_sl_h; (first | exact Co_dd rfl | exact Co_bb rfl rfl rfl | exact Co_nn rfl); exact (by first | exact es_i64s | exact es_u8s); exact rfl; exact fun _ => rfl)
    | (apply Y_lit0; exact (by first | exact ety_i64s | exact ety_u8s); exact (by first | exact es_i64s | exact es_u8s); exact (by first | exact zs_i64 | exact zs_u8); exact rfl)
    | (apply Y_lit1; exact (by first | exact ety_i64s | exact ety_u8s); exact (by first | exact es_i64s | exact es_u8s); exact (by first | exact zs_i64 | exact zs_u8); exact rfl; exact rfl; (first | exact CoL_d rfl CoL_nil | exact CoL_b rfl rfl rfl CoL_nil | exact CoL_n rfl CoL_nil); exact rfl)
    | (apply Y_lit2; exact (by first | exact ety_i64s | exact ety_u8s); exact (by first | exact es_i64s | exact es_u8s); exact (by first | exact zs_i64 | exact zs_u8); exact rfl; exact rfl; (first | exact CoL_d rfl (CoL_d rfl CoL_nil) | exact CoL_b rfl rfl rfl (CoL_b rfl rfl rfl CoL_nil)); exact rfl)
    | (apply Y_lit3; exact (by first | exact ety_i64s | exact ety_u8s); exact (by first | exact es_i64s | exact es_u8s); exact (by first | exact zs_i64 | exact zs_u8); exact rfl; exact rfl; (exact CoL_d rfl (CoL_d rfl (CoL_d rfl CoL_nil))); exact rfl)
    | (apply Y_lit4; exact (by first | exact ety_i64s | exact ety_u8s); exact (by first | exact es_i64s | exact es_u8s); exact (by first | exact zs_i64 | exact zs_u8); exact rfl; exact rfl; (exact CoL_d rfl (CoL_d rfl (CoL_d rfl (CoL_d rfl CoL_nil)))); exact rfl)
    | (apply Y_mkf; exact rfl)
    | (apply w1; exact rfl; exact rfl)
    | (apply k1 (hd := rfl); exact rfl; exact rfl)
    | (apply k0 (hd := rfl); exact rfl; exact rfl)
    | (apply gD; exact rfl; exact rfl; (intro hb); rotate_left; (intro hb); rotate_right)
    | (apply gN; exact rfl; exact rfl; (intro hb); rotate_left; (intro hb); rotate_right)
    | (apply g1; exact rfl; exact rfl; (intro hb); rotate_left; (intro hb); rotate_right)
    | (refine w0' ?_)
    | (apply aStore; exact rfl; exact rfl; exact rfl; exact (by first | exact tc_i64); exact rfl; exact rfl; exact rfl; exact rfl)
    | (apply awp_condD; exact rfl; (intro hb); rotate_left; (intro hb); rotate_right)
    | (apply awp_condN; exact rfl; (intro hb); rotate_left; (intro hb); rotate_right)
    | (apply awp_condT; exact rfl)
    | (apply awp_condF; exact rfl)
    | (apply awp_cond; exact rfl; (intro hb); rotate_left; (intro hb); rotate_right)
    | refine awp_block ?_
    | refine awp_skip ?_
    | refine awp_ret ?_
    | refine awp_exit ?_
    | refine awp_label ?_
    | refine awp_goto ?_
    | refine awp_draw (by kernel_rfl) (by kernel_rfl) ?_
    | refine en_r ?_
    | refine en_e ?_
    | refine eb_n ?_
    | refine eb_r ?_
    | refine eb_e ?_
    | refine eb_o rfl ?_
    | refine en_g ?_
    | refine eb_g ?_
    | refine ej_n ?_
    | refine ej_r ?_
    | refine ej_e ?_
    | refine ej_g ?_
    | refine rpost_ret ?_
    | (apply res1; exact rfl)
    | (apply res1n; exact rfl)
    | (apply res1b; exact rfl; exact rfl; (first | exact rfl | (simp; done)))
    | (apply res2; exact rfl; exact rfl)
    | (apply res2n; exact rfl; exact rfl)
    | (apply res2b; exact rfl; exact rfl; (first | exact rfl | (simp; done)); exact rfl)
    | exact CoL_nil
    | refine CoL_d rfl ?_
    | refine CoL_b rfl rfl rfl ?_
    | refine CoL_n rfl ?_
    | refine CoL_v rfl ?_
  all_goals first
    | rfl
    | exact absurd x1 hb
    | exact absurd x2 hb
    | exact absurd x3 hb
    | exact absurd x4 hb
    | exact absurd x6 hb
    | exact absurd x7 hb
    | exact absurd x8 hb
    | exact absurd x9 hb
    | exact absurd x10 hb
    | exact absurd x11 hb
    | exact absurd x12 hb
    | exact absurd x13 hb
    | trace_state
end Go.Proofs.YtbegnjhfhnaagaaDoor
