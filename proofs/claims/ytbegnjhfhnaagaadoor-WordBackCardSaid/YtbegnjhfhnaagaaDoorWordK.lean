/- The word statements: the law WordBack returns true. -/
import Derived.Test.YtbegnjhfhnaagaaDoorWordJ
namespace Go.Proofs.YtbegnjhfhnaagaaDoor
open Go.Sx
attribute [local irreducible] Ylds astep alex alexE alexD awp PCall FCall RCall athen ablock ajump rpost fpost

theorem b_back (a b : Int) (h : ¬ W b = 0) : W (W (divV a b * b) + modV a b) = W a := by
  rw [divV, modV, if_neg h, if_neg h, W_addl, ← W_addl, W_mull, ← W_mulr, W_addl, Int.mul_comm, Int.mul_tdiv_add_tmod]
  exact W_W a
theorem wDiv_0 {a b : Int} (h : W b = 0) : PCall Tryd.prog 19 [i64 a, i64 b] (.tup [i64 0, i64 10]) := by
  have := wDiv_ok a b; rwa [divV, zeroE, if_pos h, if_pos h] at this
theorem wMod_0 {a b : Int} (h : W b = 0) : PCall Tryd.prog 20 [i64 a, i64 b] (.tup [i64 0, i64 10]) := by
  have := wMod_ok a b; rwa [modV, zeroE, if_pos h, if_pos h] at this
theorem wDiv_1 {a b : Int} (h : ¬ W b = 0) : PCall Tryd.prog 19 [i64 a, i64 b] (.tup [i64 (divV a b), i64 0]) := by
  have := wDiv_ok a b; rwa [zeroE, if_neg h] at this
theorem wMod_1 {a b : Int} (h : ¬ W b = 0) : PCall Tryd.prog 20 [i64 a, i64 b] (.tup [i64 (modV a b), i64 0]) := by
  have := wMod_ok a b; rwa [zeroE, if_neg h] at this
theorem mod_near (a b : Int) (h : ¬ W b = 0) : (modV a b = 0 ∨ (modV a b < 0 ∧ W a < 0) ∨ (0 < modV a b ∧ 0 < W a)) ∧ (0 < W b → modV a b < W b ∧ -W b < modV a b) ∧ (W b < 0 → modV a b < -W b ∧ W b < modV a b) := by
  rw [modV, if_neg h]
  have e := tmod_abs (W a) (W b)
  have h2 := tmod_nat_bd (W a).natAbs (W b).natAbs
  have h3 : ((W a).natAbs : Int).tmod (W b).natAbs < (W b).natAbs := by
    show (((W a).natAbs % (W b).natAbs : Nat) : Int) < _
    exact Int.ofNat_lt.2 (Nat.mod_lt _ (by omega))
  split at e <;> omega

attribute [local irreducible] W divV modV
set_option maxHeartbeats 4000000 in
theorem Back_0 (a b : Int) (h : W b = 0) : PCall Tryd.prog 8 [i64 a, i64 b] (bl true) := by
  refine pcall_of Tryd.func8 rfl Tryd.ntmps8 Tryd.results8 rfl ?_
  intro wb St0
  repeat' first
    | refine en_n ?_
    | refine awp_seq ?_
    | refine awp_region ?_
    | refine alex_nil ?_
    | refine w0 ?_
    | (apply kU (hd := rfl); exact rfl; exact rfl)
    | (apply k1u (hd := rfl); exact rfl; exact rfl)
    | (apply k0u (hd := rfl); exact rfl; exact rfl)
    | (apply Y_lssT; exact rfl; exact rfl; first
    | assumption
    | omega)
    | (apply Y_lssF; exact rfl; exact rfl; first
    | assumption
    | omega)
    | (apply Y_leqT; exact rfl; exact rfl; first
    | assumption
    | omega)
    | (apply Y_leqF; exact rfl; exact rfl; first
    | assumption
    | omega)
    | (apply Y_gtrT; exact rfl; exact rfl; first
    | assumption
    | omega)
    | (apply Y_gtrF; exact rfl; exact rfl; first
    | assumption
    | omega)
    | (apply Y_geqT; exact rfl; exact rfl; first
    | assumption
    | omega)
    | (apply Y_geqF; exact rfl; exact rfl; first
    | assumption
    | omega)
    | (apply Y_eqlT; exact rfl; exact rfl; first
    | assumption
    | omega)
    | (apply Y_eqlF; exact rfl; exact rfl; first
    | assumption
    | omega)
    | (apply Y_neqT; exact rfl; exact rfl; first
    | assumption
    | omega)
    | (apply Y_neqF; exact rfl; exact rfl; first
    | assumption
    | omega)
    | (refine Y_call hb_awake awake_ok CoL_nil)
    | (refine Y_call hb_wWrap (wWrap_ok _) (CoL_d rfl CoL_nil))
    | (refine Y_call hb_wDiv (wDiv_0 h) (CoL_d rfl (CoL_d rfl CoL_nil)))
    | (refine Y_call hb_wMod (wMod_0 h) (CoL_d rfl (CoL_d rfl CoL_nil)))
    | (apply aJ (hd := rfl); (first | exact Co_dd rfl | exact Co_bb rfl rfl rfl | exact Co_nn rfl); exact rfl; exact (by first | exact es_i64s | exact es_u8s); assumption; omega; exact fun _ => rfl)
    | (apply aI (hd := rfl); (first | exact Co_dd rfl | exact Co_bb rfl rfl rfl | exact Co_nn rfl); exact rfl; exact (by first | exact es_i64s | exact es_u8s); exact fun _ => rfl; rotate_left; intro v hv; rotate_right)
    | (apply aApp (hd := rfl) (hro := rfl); exact rfl; exact rfl; (first | exact Co_dd rfl | exact Co_bb rfl rfl rfl | exact Co_nn rfl); (first | exact rfl | (simp; done)); exact rfl; exact (by first | exact ety_i64s | exact ety_u8s); exact (by first | exact es_i64s | exact es_u8s); exact (by first | exact zl_i64 | exact zl_u8); exact (by first | exact by_i64s | exact by_u8s); (first | exact sz_map (fun _ => rfl) | exact sz_lit rfl))
    | (apply aBox (hd := rfl) (hro := rfl); exact rfl; exact rfl)
    | (apply aAlloc (hd := rfl) (hro := rfl); exact (by first | exact zo_i64))
    | apply ay (hd := rfl)
    | (apply Y_move_d; exact rfl)
    | (apply Y_assign_d; exact rfl)
    | (apply Y_field_r; exact rfl; exact (by first | exact rfl))
    | (apply Y_load_r1; exact rfl; exact (by first | exact tc_i64))
    | (apply Y_load_r; exact rfl; exact (by first | exact tc_i64); exact rfl)
    | (apply Y_len_m; exact rfl; exact (by first | exact et_i64s | exact et_u8s))
    | (apply Y_len_d; exact rfl; exact (by first | exact et_i64s | exact et_u8s))
    | (apply Y_lss; exact rfl; exact rfl)
    | (apply Y_leq; exact rfl; exact rfl)
    | (apply Y_gtr; exact rfl; exact rfl)
    | (apply Y_geq; exact rfl; exact rfl)
    | (apply Y_eql; exact rfl; exact rfl)
    | (apply Y_neq; exact rfl; exact rfl)
    | (apply Y_add; exact rfl; exact rfl)
    | (apply Y_sub; exact rfl; exact rfl)
    | (apply Y_mul; exact rfl; exact rfl)
    | (apply Y_not; exact rfl)
    | (apply Y_pick_t; exact rfl; exact rfl)
    | (apply Y_pick_f; exact rfl; exact rfl)
    | (apply Y_extract; exact rfl; exact rfl)
    | (apply Y_max; exact rfl; exact rfl)
    | (apply Y_move_nil; exact rfl)
    | (apply Y_assign_nil; exact rfl)
    | (apply Y_move_buf; exact rfl)
    | (apply Y_assign_buf; exact rfl)
    | (apply Y_len_buf; exact rfl; exact (by first | exact et_i64s | exact et_u8s))
    | (apply Y_len_nil; exact rfl; exact (by first | exact et_i64s | exact et_u8s))
    | (apply Y_move_ptr; exact rfl)
    | (apply Y_assign_ptr; exact rfl)
    | (apply Y_move_clo; exact rfl)
    | (apply Y_assign_clo; exact rfl)
    | (apply Y_field_p; exact rfl; exact (by first | exact rfl))
    | (apply Y_load_p; exact rfl; exact (by first | exact tc_i64); exact rfl; exact rfl)
    | (apply Y_load_pa; exact rfl; exact (by first | exact tc_i64); exact rfl; exact rfl; exact rfl)
    | (apply Y_sl; (first | exact Co_dd rfl | exact Co_bb rfl rfl rfl | exact Co_nn rfl); exact (by first | exact es_i64s | exact es_u8s); exact rfl; exact rfl; exact fun _ => rfl)
    | (apply Y_sl_l; (first | exact Co_dd rfl | exact Co_bb rfl rfl rfl | exact Co_nn rfl); exact (by first | exact es_i64s | exact es_u8s); exact rfl; exact fun _ => rfl)
    | (apply Y_sl_h; (first | exact Co_dd rfl | exact Co_bb rfl rfl rfl | exact Co_nn rfl); exact (by first | exact es_i64s | exact es_u8s); exact rfl; exact fun _ => rfl)
    | (apply Y_lit0; exact (by first | exact ety_i64s | exact ety_u8s); exact (by first | exact es_i64s | exact es_u8s); exact (by first | exact zs_i64 | exact zs_u8); exact rfl)
    | (apply Y_lit1; exact (by first | exact ety_i64s | exact ety_u8s); exact (by first | exact es_i64s | exact es_u8s); exact (by first | exact zs_i64 | exact zs_u8); exact rfl; exact rfl; (first | exact CoL_d rfl CoL_nil | exact CoL_b rfl rfl rfl CoL_nil | exact CoL_n rfl CoL_nil); exact rfl)
    | (apply Y_lit2; exact (by first | exact ety_i64s | exact ety_u8s); exact (by first | exact es_i64s | exact es_u8s); exact (by first | exact zs_i64 | exact zs_u8); exact rfl; exact rfl; (first | exact CoL_d rfl (CoL_d rfl CoL_nil) | exact CoL_b rfl rfl rfl (CoL_b rfl rfl rfl CoL_nil)); exact rfl)
    | (apply Y_lit3; exact (by first | exact ety_i64s | exact ety_u8s); exact (by first | exact es_i64s | exact es_u8s); exact (by first | exact zs_i64 | exact zs_u8); exact rfl; exact rfl; (exact CoL_d rfl (CoL_d rfl (CoL_d rfl CoL_nil))); exact rfl)
    | (apply Y_lit4; exact (by first | exact ety_i64s | exact ety_u8s); exact (by first | exact es_i64s | exact es_u8s); exact (by first | exact zs_i64 | exact zs_u8); exact rfl; exact rfl; (exact CoL_d rfl (CoL_d rfl (CoL_d rfl (CoL_d rfl CoL_nil)))); exact rfl)
    | (apply Y_mkf; exact rfl)
    | (apply w1; exact rfl; exact rfl)
    | (apply k1 (hd := rfl); exact rfl; exact rfl)
    | (apply k0 (hd := rfl); exact rfl; exact rfl)
    | (apply gD; exact rfl; exact rfl; (intro hb); rotate_left; (intro hb); rotate_right)
    | (apply gN; exact rfl; exact rfl; (intro hb); rotate_left; (intro hb); rotate_right)
    | (apply g1; exact rfl; exact rfl; (intro hb); rotate_left; (intro hb); rotate_right)
    | (refine w0' ?_)
    | (apply aStore; exact rfl; exact rfl; exact rfl; exact (by first | exact tc_i64); exact rfl; exact rfl; exact rfl; exact rfl)
    | (apply awp_condD; exact rfl; (intro hb); rotate_left; (intro hb); rotate_right)
    | (apply awp_condN; exact rfl; (intro hb); rotate_left; (intro hb); rotate_right)
    | (apply awp_condT; exact rfl)
    | (apply awp_condF; exact rfl)
    | (apply awp_cond; exact rfl; (intro hb); rotate_left; (intro hb); rotate_right)
    | refine awp_block ?_
    | refine awp_skip ?_
    | refine awp_ret ?_
    | refine awp_exit ?_
    | refine awp_label ?_
    | refine awp_goto ?_
    | refine awp_draw (by kernel_rfl) (by kernel_rfl) ?_
    | refine en_r ?_
    | refine en_e ?_
    | refine eb_n ?_
    | refine eb_r ?_
    | refine eb_e ?_
    | refine eb_o rfl ?_
    | refine en_g ?_
    | refine eb_g ?_
    | refine ej_n ?_
    | refine ej_r ?_
    | refine ej_e ?_
    | refine ej_g ?_
    | refine rpost_ret ?_
    | (apply res1; exact rfl)
    | (apply res1n; exact rfl)
    | (apply res1b; exact rfl; exact rfl; (first | exact rfl | (simp; done)))
    | (apply res2; exact rfl; exact rfl)
    | (apply res2n; exact rfl; exact rfl)
    | (apply res2b; exact rfl; exact rfl; (first | exact rfl | (simp; done)); exact rfl)
    | exact CoL_nil
    | refine CoL_d rfl ?_
    | refine CoL_b rfl rfl rfl ?_
    | refine CoL_n rfl ?_
    | refine CoL_v rfl ?_
  rfl
set_option maxHeartbeats 4000000 in
theorem Back_1 (a b : Int) (h : ¬ W b = 0) : PCall Tryd.prog 8 [i64 a, i64 b] (bl true) := by
  refine pcall_of Tryd.func8 rfl Tryd.ntmps8 Tryd.results8 rfl ?_
  intro wb St0
  obtain ⟨hn, hp, hm⟩ := mod_near a b h
  have hbk := b_back a b h
  have hwa := W_bd a
  have hwb := W_bd b
  have hneg : IntKind.i64.wrap (0 - W b) = -W b := by rw [wrap_i64]; omega
  repeat' first
    | refine en_n ?_
    | refine awp_seq ?_
    | refine awp_region ?_
    | refine alex_nil ?_
    | refine w0 ?_
    | (apply kU (hd := rfl); exact rfl; exact rfl)
    | (apply k1u (hd := rfl); exact rfl; exact rfl)
    | (apply k0u (hd := rfl); exact rfl; exact rfl)
    | (apply Y_lssT; exact rfl; exact rfl; first
    | assumption
    | omega)
    | (apply Y_lssF; exact rfl; exact rfl; first
    | assumption
    | omega)
    | (apply Y_leqT; exact rfl; exact rfl; first
    | assumption
    | omega)
    | (apply Y_leqF; exact rfl; exact rfl; first
    | assumption
    | omega)
    | (apply Y_gtrT; exact rfl; exact rfl; first
    | assumption
    | omega)
    | (apply Y_gtrF; exact rfl; exact rfl; first
    | assumption
    | omega)
    | (apply Y_geqT; exact rfl; exact rfl; first
    | assumption
    | omega)
    | (apply Y_geqF; exact rfl; exact rfl; first
    | assumption
    | omega)
    | (apply Y_eqlT; exact rfl; exact rfl; first
    | assumption
    | omega)
    | (apply Y_eqlF; exact rfl; exact rfl; first
    | assumption
    | omega)
    | (apply Y_neqT; exact rfl; exact rfl; first
    | assumption
    | omega)
    | (apply Y_neqF; exact rfl; exact rfl; first
    | assumption
    | omega)
    | (apply Y_eqlb; exact rfl; exact rfl; exact ubool)
    | (refine Y_call hb_awake awake_ok CoL_nil)
    | (refine Y_call hb_wWrap (wWrap_ok _) (CoL_d rfl CoL_nil))
    | (refine Y_call hb_wAdd (wAdd_ok _ _) (CoL_d rfl (CoL_d rfl CoL_nil)))
    | (refine Y_call hb_wMul (wMul_ok _ _) (CoL_d rfl (CoL_d rfl CoL_nil)))
    | (refine Y_call hb_wDiv (wDiv_1 h) (CoL_d rfl (CoL_d rfl CoL_nil)))
    | (refine Y_call hb_wMod (wMod_1 h) (CoL_d rfl (CoL_d rfl CoL_nil)))
    | (apply Y_neg; exact rfl)
    | (apply aJ (hd := rfl); (first | exact Co_dd rfl | exact Co_bb rfl rfl rfl | exact Co_nn rfl); exact rfl; exact (by first | exact es_i64s | exact es_u8s); assumption; omega; exact fun _ => rfl)
    | (apply aI (hd := rfl); (first | exact Co_dd rfl | exact Co_bb rfl rfl rfl | exact Co_nn rfl); exact rfl; exact (by first | exact es_i64s | exact es_u8s); exact fun _ => rfl; rotate_left; intro v hv; rotate_right)
    | (apply aApp (hd := rfl) (hro := rfl); exact rfl; exact rfl; (first | exact Co_dd rfl | exact Co_bb rfl rfl rfl | exact Co_nn rfl); (first | exact rfl | (simp; done)); exact rfl; exact (by first | exact ety_i64s | exact ety_u8s); exact (by first | exact es_i64s | exact es_u8s); exact (by first | exact zl_i64 | exact zl_u8); exact (by first | exact by_i64s | exact by_u8s); (first | exact sz_map (fun _ => rfl) | exact sz_lit rfl))
    | (apply aBox (hd := rfl) (hro := rfl); exact rfl; exact rfl)
    | (apply aAlloc (hd := rfl) (hro := rfl); exact (by first | exact zo_i64))
    | apply ay (hd := rfl)
    | (apply Y_move_d; exact rfl)
    | (apply Y_assign_d; exact rfl)
    | (apply Y_field_r; exact rfl; exact (by first | exact rfl))
    | (apply Y_load_r1; exact rfl; exact (by first | exact tc_i64))
    | (apply Y_load_r; exact rfl; exact (by first | exact tc_i64); exact rfl)
    | (apply Y_len_m; exact rfl; exact (by first | exact et_i64s | exact et_u8s))
    | (apply Y_len_d; exact rfl; exact (by first | exact et_i64s | exact et_u8s))
    | (apply Y_lss; exact rfl; exact rfl)
    | (apply Y_leq; exact rfl; exact rfl)
    | (apply Y_gtr; exact rfl; exact rfl)
    | (apply Y_geq; exact rfl; exact rfl)
    | (apply Y_eql; exact rfl; exact rfl)
    | (apply Y_neq; exact rfl; exact rfl)
    | (apply Y_add; exact rfl; exact rfl)
    | (apply Y_sub; exact rfl; exact rfl)
    | (apply Y_mul; exact rfl; exact rfl)
    | (apply Y_not; exact rfl)
    | (apply Y_pick_t; exact rfl; exact rfl)
    | (apply Y_pick_f; exact rfl; exact rfl)
    | (apply Y_extract; exact rfl; exact rfl)
    | (apply Y_max; exact rfl; exact rfl)
    | (apply Y_move_nil; exact rfl)
    | (apply Y_assign_nil; exact rfl)
    | (apply Y_move_buf; exact rfl)
    | (apply Y_assign_buf; exact rfl)
    | (apply Y_len_buf; exact rfl; exact (by first | exact et_i64s | exact et_u8s))
    | (apply Y_len_nil; exact rfl; exact (by first | exact et_i64s | exact et_u8s))
    | (apply Y_move_ptr; exact rfl)
    | (apply Y_assign_ptr; exact rfl)
    | (apply Y_move_clo; exact rfl)
    | (apply Y_assign_clo; exact rfl)
    | (apply Y_field_p; exact rfl; exact (by first | exact rfl))
    | (apply Y_load_p; exact rfl; exact (by first | exact tc_i64); exact rfl; exact rfl)
    | (apply Y_load_pa; exact rfl; exact (by first | exact tc_i64); exact rfl; exact rfl; exact rfl)
    | (apply Y_sl; (first | exact Co_dd rfl | exact Co_bb rfl rfl rfl | exact Co_nn rfl); exact (by first | exact es_i64s | exact es_u8s); exact rfl; exact rfl; exact fun _ => rfl)
    | (apply Y_sl_l; (first | exact Co_dd rfl | exact Co_bb rfl rfl rfl | exact Co_nn rfl); exact (by first | exact es_i64s | exact es_u8s); exact rfl; exact fun _ => rfl)
    | (apply Y_sl_h; (first | exact Co_dd rfl | exact Co_bb rfl rfl rfl | exact Co_nn rfl); exact (by first | exact es_i64s | exact es_u8s); exact rfl; exact fun _ => rfl)
    | (apply Y_lit0; exact (by first | exact ety_i64s | exact ety_u8s); exact (by first | exact es_i64s | exact es_u8s); exact (by first | exact zs_i64 | exact zs_u8); exact rfl)
    | (apply Y_lit1; exact (by first | exact ety_i64s | exact ety_u8s); exact (by first | exact es_i64s | exact es_u8s); exact (by first | exact zs_i64 | exact zs_u8); exact rfl; exact rfl; (first | exact CoL_d rfl CoL_nil | exact CoL_b rfl rfl rfl CoL_nil | exact CoL_n rfl CoL_nil); exact rfl)
    | (apply Y_lit2; exact (by first | exact ety_i64s | exact ety_u8s); exact (by first | exact es_i64s | exact es_u8s); exact (by first | exact zs_i64 | exact zs_u8); exact rfl; exact rfl; (first | exact CoL_d rfl (CoL_d rfl CoL_nil) | exact CoL_b rfl rfl rfl (CoL_b rfl rfl rfl CoL_nil)); exact rfl)
    | (apply Y_lit3; exact (by first | exact ety_i64s | exact ety_u8s); exact (by first | exact es_i64s | exact es_u8s); exact (by first | exact zs_i64 | exact zs_u8); exact rfl; exact rfl; (exact CoL_d rfl (CoL_d rfl (CoL_d rfl CoL_nil))); exact rfl)
    | (apply Y_lit4; exact (by first | exact ety_i64s | exact ety_u8s); exact (by first | exact es_i64s | exact es_u8s); exact (by first | exact zs_i64 | exact zs_u8); exact rfl; exact rfl; (exact CoL_d rfl (CoL_d rfl (CoL_d rfl (CoL_d rfl CoL_nil)))); exact rfl)
    | (apply Y_mkf; exact rfl)
    | (apply w1; exact rfl; exact rfl)
    | (apply k1 (hd := rfl); exact rfl; exact rfl)
    | (apply k0 (hd := rfl); exact rfl; exact rfl)
    | (apply gD; exact rfl; exact rfl; (intro hb); rotate_left; (intro hb); rotate_right)
    | (apply gN; exact rfl; exact rfl; (intro hb); rotate_left; (intro hb); rotate_right)
    | (apply g1; exact rfl; exact rfl; (intro hb); rotate_left; (intro hb); rotate_right)
    | (refine w0' ?_)
    | (apply aStore; exact rfl; exact rfl; exact rfl; exact (by first | exact tc_i64); exact rfl; exact rfl; exact rfl; exact rfl)
    | (apply awp_condD; exact rfl; (intro hb); rotate_left; (intro hb); rotate_right)
    | (apply awp_condN; exact rfl; (intro hb); rotate_left; (intro hb); rotate_right)
    | (apply awp_condT; exact rfl)
    | (apply awp_condF; exact rfl)
    | (apply awp_cond; exact rfl; (intro hb); rotate_left; (intro hb); rotate_right)
    | refine awp_block ?_
    | refine awp_skip ?_
    | refine awp_ret ?_
    | refine awp_exit ?_
    | refine awp_label ?_
    | refine awp_goto ?_
    | refine awp_draw (by kernel_rfl) (by kernel_rfl) ?_
    | refine en_r ?_
    | refine en_e ?_
    | refine eb_n ?_
    | refine eb_r ?_
    | refine eb_e ?_
    | refine eb_o rfl ?_
    | refine en_g ?_
    | refine eb_g ?_
    | refine ej_n ?_
    | refine ej_r ?_
    | refine ej_e ?_
    | refine ej_g ?_
    | refine rpost_ret ?_
    | (apply res1; exact rfl)
    | (apply res1n; exact rfl)
    | (apply res1b; exact rfl; exact rfl; (first | exact rfl | (simp; done)))
    | (apply res2; exact rfl; exact rfl)
    | (apply res2n; exact rfl; exact rfl)
    | (apply res2b; exact rfl; exact rfl; (first | exact rfl | (simp; done)); exact rfl)
    | exact CoL_nil
    | refine CoL_d rfl ?_
    | refine CoL_b rfl rfl rfl ?_
    | refine CoL_n rfl ?_
    | refine CoL_v rfl ?_
  all_goals first
    | rfl
    | (exfalso; exact hb (decide_eq_decide.2 ⟨fun _ => by omega, fun _ => by omega⟩))
theorem Back_ok (a b : Int) : PCall Tryd.prog 8 [i64 a, i64 b] (bl true) := by
  by_cases h : W b = 0
  · exact Back_0 a b h
  · exact Back_1 a b h
end Go.Proofs.YtbegnjhfhnaagaaDoor
