/- The word statements: the law WordRing returns true. -/
import Derived.Test.YtbegnjhfhnaagaaDoorWordH
import Derived.Test.YtbegnjhfhnaagaaDoorSxR
namespace Go.Proofs.YtbegnjhfhnaagaaDoor
open Go.Sx
attribute [local irreducible] Ylds astep alex alexE alexD awp PCall FCall RCall athen ablock ajump rpost fpost

/-! ### a ring -/
theorem W_addl (a b : Int) : W (W a + b) = W (a + b) := by unfold W; omega
theorem W_addr (a b : Int) : W (a + W b) = W (a + b) := by unfold W; omega
theorem W_emod (a : Int) : W (a % 9223372036854775808) = W a := by unfold W; omega
theorem W_mod (a : Int) : W a % 9223372036854775808 = a % 9223372036854775808 := by unfold W; omega
theorem W_mull (a b : Int) : W (W a * b) = W (a * b) := by rw [← W_emod (W a * b), ← W_emod (a * b), Int.mul_emod, W_mod, ← Int.mul_emod]
theorem W_mulr (a b : Int) : W (a * W b) = W (a * b) := by rw [Int.mul_comm, W_mull, Int.mul_comm]
theorem r1 (a b c : Int) : W (W (a + b) + c) = W (a + W (b + c)) := by rw [W_addl, W_addr, Int.add_assoc]
theorem r2 (a b : Int) : W (a + b) = W (b + a) := by rw [Int.add_comm]
theorem r3 (a : Int) : W (a + 0) = W a := by rw [Int.add_zero]
theorem r4 (a b : Int) : W (W (a - b) + b) = W a := by rw [W_addl, Int.sub_add_cancel]
theorem r5 (a b c : Int) : W (W (a * b) * c) = W (a * W (b * c)) := by rw [W_mull, W_mulr, Int.mul_assoc]
theorem r6 (a b : Int) : W (a * b) = W (b * a) := by rw [Int.mul_comm]
theorem r7 (a : Int) : W (a * 1) = W a := by rw [Int.mul_one]
theorem r8 (a b c : Int) : W (a * W (b + c)) = W (W (a * b) + W (a * c)) := by rw [W_mulr, W_addl, W_addr, Int.mul_add]

attribute [local irreducible] W divV modV
set_option maxHeartbeats 4000000 in
theorem Ring_ok (a b c : Int) : PCall Tryd.prog 7 [i64 a, i64 b, i64 c] (bl true) := by
  refine pcall_of Tryd.func7 rfl Tryd.ntmps7 Tryd.results7 rfl ?_
  intro wb St0
  repeat' first
    | refine en_n ?_
    | refine awp_seq ?_
    | refine awp_region ?_
    | refine alex_nil ?_
    | refine w0 ?_
    | (apply Y_eqlT; exact rfl; exact rfl; (first
    | exact r1 _ _ _
    | exact r2 _ _
    | exact r3 _
    | exact r4 _ _
    | exact r5 _ _ _
    | exact r6 _ _
    | exact r7 _
    | exact r8 _ _ _))
    | (refine Y_call hb_awake awake_ok CoL_nil)
    | (refine Y_call hb_wWrap (wWrap_ok _) (CoL_d rfl CoL_nil))
    | (refine Y_call hb_wAdd (wAdd_ok _ _) (CoL_d rfl (CoL_d rfl CoL_nil)))
    | (refine Y_call hb_wSub (wSub_ok _ _) (CoL_d rfl (CoL_d rfl CoL_nil)))
    | (refine Y_call hb_wMul (wMul_ok _ _) (CoL_d rfl (CoL_d rfl CoL_nil)))
    | (apply aJ (hd := rfl); (first | exact Co_dd rfl | exact Co_bb rfl rfl rfl | exact Co_nn rfl); exact rfl; exact (by first | exact es_i64s | exact es_u8s); assumption; omega; exact fun _ => rfl)
    | (apply aI (hd := rfl); (first | exact Co_dd rfl | exact Co_bb rfl rfl rfl | exact Co_nn rfl); exact rfl; exact (by first | exact es_i64s | exact es_u8s); exact fun _ => rfl; rotate_left; intro v hv; rotate_right)
    | (apply aApp (hd := rfl) (hro := rfl); exact rfl; exact rfl; (first | exact Co_dd rfl | exact Co_bb rfl rfl rfl | exact Co_nn rfl); (first | exact rfl | (simp; done)); exact rfl; exact (by first | exact ety_i64s | exact ety_u8s); exact (by first | exact es_i64s | exact es_u8s); exact (by first | exact zl_i64 | exact zl_u8); exact (by first | exact by_i64s | exact by_u8s); (first | exact sz_map (fun _ => rfl) | exact sz_lit rfl))
    | (apply aBox (hd := rfl) (hro := rfl); exact rfl; exact rfl)
    | (apply aAlloc (hd := rfl) (hro := rfl); exact (by first | exact zo_i64))
    | apply ay (hd := rfl)
    | (apply Y_move_d; exact rfl)
    | (apply Y_assign_d; exact rfl)
    | (apply Y_field_r; exact rfl; exact (by first | exact rfl))
    | (apply Y_load_r1; exact rfl; exact (by first | exact tc_i64))
    | (apply Y_load_r; exact rfl; exact (by first | exact tc_i64); exact rfl)
    | (apply Y_len_m; exact rfl; exact (by first | exact et_i64s | exact et_u8s))
    | (apply Y_len_d; exact rfl; exact (by first | exact et_i64s | exact et_u8s))
    | (apply Y_lss; exact rfl; exact rfl)
    | (apply Y_leq; exact rfl; exact rfl)
    | (apply Y_gtr; exact rfl; exact rfl)
    | (apply Y_geq; exact rfl; exact rfl)
    | (apply Y_eql; exact rfl; exact rfl)
    | (apply Y_neq; exact rfl; exact rfl)
    | (apply Y_add; exact rfl; exact rfl)
    | (apply Y_sub; exact rfl; exact rfl)
    | (apply Y_mul; exact rfl; exact rfl)
    | (apply Y_not; exact rfl)
    | (apply Y_pick_t; exact rfl; exact rfl)
    | (apply Y_pick_f; exact rfl; exact rfl)
    | (apply Y_extract; exact rfl; exact rfl)
    | (apply Y_max; exact rfl; exact rfl)
    | (apply Y_move_nil; exact rfl)
    | (apply Y_assign_nil; exact rfl)
    | (apply Y_move_buf; exact rfl)
    | (apply Y_assign_buf; exact rfl)
    | (apply Y_len_buf; exact rfl; exact (by first | exact et_i64s | exact et_u8s))
    | (apply Y_len_nil; exact rfl; exact (by first | exact et_i64s | exact et_u8s))
    | (apply Y_move_ptr; exact rfl)
    | (apply Y_assign_ptr; exact rfl)
    | (apply Y_move_clo; exact rfl)
    | (apply Y_assign_clo; exact rfl)
    | (apply Y_field_p; exact rfl; exact (by first | exact rfl))
    | (apply Y_load_p; exact rfl; exact (by first | exact tc_i64); exact rfl; exact rfl)
    | (apply Y_load_pa; exact rfl; exact (by first | exact tc_i64); exact rfl; exact rfl; exact rfl)
    | (apply Y_sl; (first | exact Co_dd rfl | exact Co_bb rfl rfl rfl | exact Co_nn rfl); exact (by first | exact es_i64s | exact es_u8s); exact rfl; exact rfl; exact fun _ => rfl)
    | (apply Y_sl_l; (first | exact Co_dd rfl | exact Co_bb rfl rfl rfl | exact Co_nn rfl); exact (by first | exact es_i64s | exact es_u8s); exact rfl; exact fun _ => rfl)
    | (apply Y_sl_h; (first | exact Co_dd rfl | exact Co_bb rfl rfl rfl | exact Co_nn rfl); exact (by first | exact es_i64s | exact es_u8s); exact rfl; exact fun _ => rfl)
    | (apply Y_lit0; exact (by first | exact ety_i64s | exact ety_u8s); exact (by first | exact es_i64s | exact es_u8s); exact (by first | exact zs_i64 | exact zs_u8); exact rfl)
    | (apply Y_lit1; exact (by first | exact ety_i64s | exact ety_u8s); exact (by first | exact es_i64s | exact es_u8s); exact (by first | exact zs_i64 | exact zs_u8); exact rfl; exact rfl; (first | exact CoL_d rfl CoL_nil | exact CoL_b rfl rfl rfl CoL_nil | exact CoL_n rfl CoL_nil); exact rfl)
    | (apply Y_lit2; exact (by first | exact ety_i64s | exact ety_u8s); exact (by first | exact es_i64s | exact es_u8s); exact (by first | exact zs_i64 | exact zs_u8); exact rfl; exact rfl; (first | exact CoL_d rfl (CoL_d rfl CoL_nil) | exact CoL_b rfl rfl rfl (CoL_b rfl rfl rfl CoL_nil)); exact rfl)
    | (apply Y_lit3; exact (by first | exact ety_i64s | exact ety_u8s); exact (by first | exact es_i64s | exact es_u8s); exact (by first | exact zs_i64 | exact zs_u8); exact rfl; exact rfl; (exact CoL_d rfl (CoL_d rfl (CoL_d rfl CoL_nil))); exact rfl)
    | (apply Y_lit4; exact (by first | exact ety_i64s | exact ety_u8s); exact (by first | exact es_i64s | exact es_u8s); exact (by first | exact zs_i64 | exact zs_u8); exact rfl; exact rfl; (exact CoL_d rfl (CoL_d rfl (CoL_d rfl (CoL_d rfl CoL_nil)))); exact rfl)
    | (apply Y_mkf; exact rfl)
    | (apply w1; exact rfl; exact rfl)
    | (apply k1 (hd := rfl); exact rfl; exact rfl)
    | (apply k0 (hd := rfl); exact rfl; exact rfl)
    | (apply gD; exact rfl; exact rfl; (intro hb); rotate_left; (intro hb); rotate_right)
    | (apply gN; exact rfl; exact rfl; (intro hb); rotate_left; (intro hb); rotate_right)
    | (apply g1; exact rfl; exact rfl; (intro hb); rotate_left; (intro hb); rotate_right)
    | (refine w0' ?_)
    | (apply aStore; exact rfl; exact rfl; exact rfl; exact (by first | exact tc_i64); exact rfl; exact rfl; exact rfl; exact rfl)
    | (apply awp_condD; exact rfl; (intro hb); rotate_left; (intro hb); rotate_right)
    | (apply awp_condN; exact rfl; (intro hb); rotate_left; (intro hb); rotate_right)
    | (apply awp_condT; exact rfl)
    | (apply awp_condF; exact rfl)
    | (apply awp_cond; exact rfl; (intro hb); rotate_left; (intro hb); rotate_right)
    | refine awp_block ?_
    | refine awp_skip ?_
    | refine awp_ret ?_
    | refine awp_exit ?_
    | refine awp_label ?_
    | refine awp_goto ?_
    | refine awp_draw (by kernel_rfl) (by kernel_rfl) ?_
    | refine en_r ?_
    | refine en_e ?_
    | refine eb_n ?_
    | refine eb_r ?_
    | refine eb_e ?_
    | refine eb_o rfl ?_
    | refine en_g ?_
    | refine eb_g ?_
    | refine ej_n ?_
    | refine ej_r ?_
    | refine ej_e ?_
    | refine ej_g ?_
    | refine rpost_ret ?_
    | (apply res1; exact rfl)
    | (apply res1n; exact rfl)
    | (apply res1b; exact rfl; exact rfl; (first | exact rfl | (simp; done)))
    | (apply res2; exact rfl; exact rfl)
    | (apply res2n; exact rfl; exact rfl)
    | (apply res2b; exact rfl; exact rfl; (first | exact rfl | (simp; done)); exact rfl)
    | exact CoL_nil
    | refine CoL_d rfl ?_
    | refine CoL_b rfl rfl rfl ?_
    | refine CoL_n rfl ?_
    | refine CoL_v rfl ?_
  rfl
end Go.Proofs.YtbegnjhfhnaagaaDoor
