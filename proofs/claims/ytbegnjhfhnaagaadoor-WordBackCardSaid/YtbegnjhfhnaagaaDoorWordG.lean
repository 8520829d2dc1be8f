/- The word statements: the walk of the document's Read. (Printed by genG.py.) -/
import Derived.Test.YtbegnjhfhnaagaaDoorWordE
namespace Go.Proofs.YtbegnjhfhnaagaaDoor
open Go.Sx
attribute [local irreducible] Ylds astep alex alexE alexD awp PCall FCall RCall athen ablock ajump rpost fpost

theorem s_cons {s : List UInt8} (h1 : (s.length : Int) > 0) (h2 : ((s.getD (Int.toNat 0) 0).toNat : Int) = 126) : ∃ r, s = 126 :: r := by
  cases s with
  | nil => simp at h1
  | cons c r =>
    refine ⟨r, ?_⟩
    have h3 : c.toNat = 126 := by
      have : (c.toNat : Int) = 126 := h2
      omega
    have : c = 126 := UInt8.toNat_inj.1 h3
    rw [this]
theorem dgA {s : List UInt8} (h1 : (s.length : Int) > 0) (h2 : ((s.getD (Int.toNat 0) 0).toNat : Int) = 126) : s.drop (Int.toNat 1) = dg s ∧ Lib.hasPrefix s [126] = true ∧ (dg s).length < s.length := by
  obtain ⟨r, rfl⟩ := s_cons h1 h2
  rw [dg_cons]
  exact ⟨rfl, pre_cons r, by simp⟩
theorem dgB {s : List UInt8} (h2 : ¬ ((s.getD (Int.toNat 0) 0).toNat : Int) = 126) : s = dg s ∧ Lib.hasPrefix s [126] = false := by
  have hp : Lib.hasPrefix s [126] = false := by
    cases s with
    | nil => rfl
    | cons c r =>
      have : (126 == c) = false := by
        rw [beq_eq_false_iff_ne]; rintro rfl; exact h2 rfl
      rw [Lib.hasPrefix, List.isPrefixOf, this]; rfl
  refine ⟨?_, hp⟩
  rw [dg, Lib.trimPrefix, hp]; rfl
theorem dgC {s : List UInt8} (h1 : ¬ (s.length : Int) > 0) : s = dg s ∧ Lib.hasPrefix s [126] = false := by
  have : s = [] := List.eq_nil_of_length_eq_zero (by omega)
  subst this; exact ⟨rfl, rfl⟩
theorem rd_short {s : List UInt8} (h : dg s = []) : rdOk s = false := by
  cases hr : rdOk s with
  | false => rfl
  | true => exact absurd h (rd_long hr).2
theorem rd_over {s : List UInt8} (h : ((dg s).length : Int) > 19) : rdOk s = false := by
  cases hr : rdOk s with
  | false => rfl
  | true => have := (rd_long hr).1; omega
theorem bl_eq {a b : Bool} (h : b = a) : D.val (.bool a) = bl b := by rw [h]
theorem errD {s : List UInt8} {i : Nat} (h : (i : Int) < ((dg s).length : Int)) (h1 : (((dg s).getD (Int.toNat (i : Int)) 0).toNat : Int) < 48 ∨ (((dg s).getD (Int.toNat (i : Int)) 0).toNat : Int) > 57) : rdOk s = false := by
  refine rd_nodig (all_no (i := i) (by omega) ?_)
  have h1 : (((dg s).getD i 0).toNat : Int) < 48 ∨ (((dg s).getD i 0).toNat : Int) > 57 := h1
  cases hd : isDig ((dg s).getD i 0) with
  | false => rfl
  | true =>
    simp only [isDig, Bool.and_eq_true, decide_eq_true_eq] at hd
    omega
theorem end_t {s : List UInt8} {i : Nat} (h : ¬ (i : Int) < ((dg s).length : Int)) : (dg s).take i = dg s := List.take_of_length_le (by omega)
theorem great_t {s : List UInt8} {i : Nat} (h : ¬ (i : Int) < ((dg s).length : Int)) (h1 : ((dvl ((dg s).take i) : Nat) : Int) > 4611686018427387904) : rdOk s = false := by
  rw [end_t h] at h1; exact rd_great (by omega)
theorem neg_t {s : List UInt8} {i : Nat} (hp : Lib.hasPrefix s [126] = true) (h : ¬ (i : Int) < ((dg s).length : Int)) (h1 : ¬ ((dvl ((dg s).take i) : Nat) : Int) > 4611686018427387904) :
    W (IntKind.u64.wrap (0 - ((dvl ((dg s).take i) : Nat) : Int))) = rdS s ∧ ¬ rdS s > 4611686018427387903 ∧ ¬ rdS s < -4611686018427387904 := by
  rw [end_t h] at h1 ⊢
  rw [W_u64, rdS, hp, if_pos rfl, W_id (by omega)]
  omega
theorem pos_no {s : List UInt8} {i : Nat} (hp : Lib.hasPrefix s [126] = false) (h : ¬ (i : Int) < ((dg s).length : Int)) (h1 : ¬ ((dvl ((dg s).take i) : Nat) : Int) > 4611686018427387904)
    (h2 : shw (W (W ((dvl ((dg s).take i) : Nat) : Int))) ≠ s) : rdOk s = false := by
  rw [end_t h] at h1 h2
  have e : rdS s = (dvl (dg s) : Int) := by rw [rdS, hp, if_neg (by decide)]
  rcases Nat.lt_or_ge (dvl (dg s)) 4611686018427387904 with h3 | h3
  · rw [W_W, ← e] at h2
    exact no_ne (by omega) (by omega) h2
  · exact no_gt (by omega)
theorem pos_ok {s : List UInt8} {i : Nat} (hp : Lib.hasPrefix s [126] = false) (h : ¬ (i : Int) < ((dg s).length : Int)) (ha : ((dg s).take i).all isDig = true) (h1 : ¬ ((dvl ((dg s).take i) : Nat) : Int) > 4611686018427387904)
    (h2 : ¬ shw (W (W ((dvl ((dg s).take i) : Nat) : Int))) ≠ s) : rdOk s = true ∧ W ((dvl ((dg s).take i) : Nat) : Int) = rdS s := by
  have hs : ¬ i < (⟨(dg s).toArray⟩ : ByteArray).size := by rw [str_size]; omega
  have et := end_t h
  rw [et] at h1 h2 ⊢
  have e : rdS s = (dvl (dg s) : Int) := by rw [rdS, hp, if_neg (by decide)]
  rcases Nat.lt_or_ge (dvl (dg s)) 4611686018427387904 with h3 | h3
  · rw [W_W, ← e] at h2
    exact ⟨yes_ hs ha (by omega) (by omega) h2, by rw [← e, W_id (by omega)]⟩
  · exfalso
    have h4 : W (W (dvl (dg s) : Int)) = -4611686018427387904 := by
      have : (dvl (dg s) : Int) = 4611686018427387904 := by omega
      rw [this]; decide
    rw [h4] at h2
    have h2 := Decidable.not_not.1 h2
    rw [shw, if_pos (by decide)] at h2
    rw [← h2, pre_cons] at hp
    cases hp

set_option maxHeartbeats 4000000 in
theorem rRead_ok (s : List UInt8) (hs : s.length ≤ 1000) : PCall Tryd.prog 25 [str s] (.tup [i64 (rdN s), bl (rdOk s)]) := by
  refine pcall_of Tryd.func25 rfl Tryd.ntmps25 Tryd.results25 rfl ?_
  intro wb St0
  repeat' first
    | refine en_n ?_
    | refine awp_seq ?_
    | refine awp_region ?_
    | refine alex_nil ?_
    | refine w0 ?_
    | (apply Y_conv; exact rfl; (first
    | exact si64
    | exact su64
    | exact su8
    | exact si32); (first
    | exact ui64
    | exact uu64
    | exact uu8
    | exact ui32))
    | (apply Y_shl; exact rfl; exact rfl; exact (by decide))
    | (apply Y_shr; exact rfl; exact rfl; exact (by decide))
    | (apply Y_addw (k := .u64); exact rfl; exact rfl)
    | (apply Y_subw (k := .u64); exact rfl; exact rfl)
    | (apply Y_mulw (k := .u64); exact rfl; exact rfl)
    | (apply Y_neg; exact rfl)
    | (apply Y_neqb; exact rfl; exact rfl; exact ubool)
    | (apply Y_eqlb; exact rfl; exact rfl; exact ubool)
    | (apply Y_idx_l; exact rfl; exact rfl; exact ustr; omega)
    | (apply Y_len_l; exact rfl; exact ustr)
    | (apply Y_drop_l; exact rfl; exact rfl; exact ustr; omega)
    | (apply Y_eqs; exact rfl; exact rfl)
    | (apply aJ (hd := rfl); (first | exact Co_dd rfl | exact Co_bb rfl rfl rfl | exact Co_nn rfl); exact rfl; exact (by first | exact es_i64s | exact es_u8s); assumption; omega; exact fun _ => rfl)
    | (apply aI (hd := rfl); (first | exact Co_dd rfl | exact Co_bb rfl rfl rfl | exact Co_nn rfl); exact rfl; exact (by first | exact es_i64s | exact es_u8s); exact fun _ => rfl; rotate_left; intro v hv; rotate_right)
    | (apply aApp (hd := rfl) (hro := rfl); exact rfl; exact rfl; (first | exact Co_dd rfl | exact Co_bb rfl rfl rfl | exact Co_nn rfl); (first | exact rfl | (simp; done)); exact rfl; exact (by first | exact ety_i64s | exact ety_u8s); exact (by first | exact es_i64s | exact es_u8s); exact (by first | exact zl_i64 | exact zl_u8); exact (by first | exact by_i64s | exact by_u8s); (first | exact sz_map (fun _ => rfl) | exact sz_lit rfl))
    | (apply aBox (hd := rfl) (hro := rfl); exact rfl; exact rfl)
    | (apply aAlloc (hd := rfl) (hro := rfl); exact (by first | exact zo_i64))
    | apply ay (hd := rfl)
    | (apply Y_move_d; exact rfl)
    | (apply Y_assign_d; exact rfl)
    | (apply Y_field_r; exact rfl; exact (by first | exact rfl))
    | (apply Y_load_r1; exact rfl; exact (by first | exact tc_i64))
    | (apply Y_load_r; exact rfl; exact (by first | exact tc_i64); exact rfl)
    | (apply Y_len_m; exact rfl; exact (by first | exact et_i64s | exact et_u8s))
    | (apply Y_len_d; exact rfl; exact (by first | exact et_i64s | exact et_u8s))
    | (apply Y_lss; exact rfl; exact rfl)
    | (apply Y_leq; exact rfl; exact rfl)
    | (apply Y_gtr; exact rfl; exact rfl)
    | (apply Y_geq; exact rfl; exact rfl)
    | (apply Y_eql; exact rfl; exact rfl)
    | (apply Y_neq; exact rfl; exact rfl)
    | (apply Y_add; exact rfl; exact rfl)
    | (apply Y_sub; exact rfl; exact rfl)
    | (apply Y_mul; exact rfl; exact rfl)
    | (apply Y_not; exact rfl)
    | (apply Y_pick_t; exact rfl; exact rfl)
    | (apply Y_pick_f; exact rfl; exact rfl)
    | (apply Y_extract; exact rfl; exact rfl)
    | (apply Y_max; exact rfl; exact rfl)
    | (apply Y_move_nil; exact rfl)
    | (apply Y_assign_nil; exact rfl)
    | (apply Y_move_buf; exact rfl)
    | (apply Y_assign_buf; exact rfl)
    | (apply Y_len_buf; exact rfl; exact (by first | exact et_i64s | exact et_u8s))
    | (apply Y_len_nil; exact rfl; exact (by first | exact et_i64s | exact et_u8s))
    | (apply Y_move_ptr; exact rfl)
    | (apply Y_assign_ptr; exact rfl)
    | (apply Y_move_clo; exact rfl)
    | (apply Y_assign_clo; exact rfl)
    | (apply Y_field_p; exact rfl; exact (by first | exact rfl))
    | (apply Y_load_p; exact rfl; exact (by first | exact tc_i64); exact rfl; exact rfl)
    | (apply Y_load_pa; exact rfl; exact (by first | exact tc_i64); exact rfl; exact rfl; exact rfl)
    | (apply Y_sl; (first | exact Co_dd rfl | exact Co_bb rfl rfl rfl | exact Co_nn rfl); exact (by first | exact es_i64s | exact es_u8s); exact rfl; exact rfl; exact fun _ => rfl)
    | (apply Y_sl_l; (first | exact Co_dd rfl | exact Co_bb rfl rfl rfl | exact Co_nn rfl); exact (by first | exact es_i64s | exact es_u8s); exact rfl; exact fun _ => rfl)
    | (apply Y_sl_h; (first | exact Co_dd rfl | exact Co_bb rfl rfl rfl | exact Co_nn rfl); exact (by first | exact es_i64s | exact es_u8s); exact rfl; exact fun _ => rfl)
    | (apply Y_lit0; exact (by first | exact ety_i64s | exact ety_u8s); exact (by first | exact es_i64s | exact es_u8s); exact (by first | exact zs_i64 | exact zs_u8); exact rfl)
    | (apply Y_lit1; exact (by first | exact ety_i64s | exact ety_u8s); exact (by first | exact es_i64s | exact es_u8s); exact (by first | exact zs_i64 | exact zs_u8); exact rfl; exact rfl; (first | exact CoL_d rfl CoL_nil | exact CoL_b rfl rfl rfl CoL_nil | exact CoL_n rfl CoL_nil); exact rfl)
    | (apply Y_lit2; exact (by first | exact ety_i64s | exact ety_u8s); exact (by first | exact es_i64s | exact es_u8s); exact (by first | exact zs_i64 | exact zs_u8); exact rfl; exact rfl; (first | exact CoL_d rfl (CoL_d rfl CoL_nil) | exact CoL_b rfl rfl rfl (CoL_b rfl rfl rfl CoL_nil)); exact rfl)
    | (apply Y_lit3; exact (by first | exact ety_i64s | exact ety_u8s); exact (by first | exact es_i64s | exact es_u8s); exact (by first | exact zs_i64 | exact zs_u8); exact rfl; exact rfl; (exact CoL_d rfl (CoL_d rfl (CoL_d rfl CoL_nil))); exact rfl)
    | (apply Y_lit4; exact (by first | exact ety_i64s | exact ety_u8s); exact (by first | exact es_i64s | exact es_u8s); exact (by first | exact zs_i64 | exact zs_u8); exact rfl; exact rfl; (exact CoL_d rfl (CoL_d rfl (CoL_d rfl (CoL_d rfl CoL_nil)))); exact rfl)
    | (apply Y_mkf; exact rfl)
    | (apply w1; exact rfl; exact rfl)
    | (apply k1 (hd := rfl); exact rfl; exact rfl)
    | (apply k0 (hd := rfl); exact rfl; exact rfl)
    | (apply gD; exact rfl; exact rfl; (intro hb); rotate_left; (intro hb); rotate_right)
    | (apply gN; exact rfl; exact rfl; (intro hb); rotate_left; (intro hb); rotate_right)
    | (apply g1; exact rfl; exact rfl; (intro hb); rotate_left; (intro hb); rotate_right)
    | (refine w0' ?_)
    | (apply aStore; exact rfl; exact rfl; exact rfl; exact (by first | exact tc_i64); exact rfl; exact rfl; exact rfl; exact rfl)
    | (apply awp_condD; exact rfl; (intro hb); rotate_left; (intro hb); rotate_right)
    | (apply awp_condN; exact rfl; (intro hb); rotate_left; (intro hb); rotate_right)
    | (apply awp_condT; exact rfl)
    | (apply awp_condF; exact rfl)
    | (apply awp_cond; exact rfl; (intro hb); rotate_left; (intro hb); rotate_right)
    | refine awp_block ?_
    | refine awp_skip ?_
    | refine awp_ret ?_
    | refine awp_exit ?_
    | refine awp_label ?_
    | refine awp_goto ?_
    | refine awp_draw (by kernel_rfl) (by kernel_rfl) ?_
    | refine en_r ?_
    | refine en_e ?_
    | refine eb_n ?_
    | refine eb_r ?_
    | refine eb_e ?_
    | refine eb_o rfl ?_
    | refine en_g ?_
    | refine eb_g ?_
    | refine ej_n ?_
    | refine ej_r ?_
    | refine ej_e ?_
    | refine ej_g ?_
    | refine rpost_ret ?_
    | (apply res1; exact rfl)
    | (apply res1n; exact rfl)
    | (apply res1b; exact rfl; exact rfl; (first | exact rfl | (simp; done)))
    | (apply res2; exact rfl; exact rfl)
    | (apply res2n; exact rfl; exact rfl)
    | (apply res2b; exact rfl; exact rfl; (first | exact rfl | (simp; done)); exact rfl)
    | exact CoL_nil
    | refine CoL_d rfl ?_
    | refine CoL_b rfl rfl rfl ?_
    | refine CoL_n rfl ?_
    | refine CoL_v rfl ?_
  · rename_i h1 h2; obtain ⟨hd, hp, hlen⟩ := dgA h1 h2; rw [hd] at hb; rw [rdN_no (rd_short hb)]
  · rename_i h1 h2; obtain ⟨hd, hp, hlen⟩ := dgA h1 h2; rw [hd] at hb; exact bl_eq (rd_short hb)
  · rename_i h1 h2 h3; obtain ⟨hd, hp, hlen⟩ := dgA h1 h2; rw [hd] at hb; rw [rdN_no (rd_over hb)]
  · rename_i h1 h2 h3; obtain ⟨hd, hp, hlen⟩ := dgA h1 h2; rw [hd] at hb; exact bl_eq (rd_over hb)
  · rename_i h1 h2 h3; obtain ⟨hd, hp, hlen⟩ := dgA h1 h2; rw [hd] at hb
    rw [hd]
    refine awp_loopF (α := Nat) (fun i => i ≤ (dg s).length ∧ ((dg s).take i).all isDig = true)
      (fun i => [(0, .d (str s)), (4, .d (str (dg s))), (5, .d (u64 ((dvl ((dg s).take i) : Nat) : Int))), (6, .d (i64 (i : Int)))]) (fun _ => []) (fun i => (dg s).length - i) 0 ⟨Nat.zero_le _, rfl⟩
      (Fits_mk (Le_cons rfl (Le_cons rfl (Le_cons rfl (Le_cons rfl Le_nil)))) Pre_nil rfl rfl) ?_
    rintro i ⟨hi1, hi2⟩
    repeat' first
      | refine en_n ?_
      | refine awp_seq ?_
      | refine awp_region ?_
      | refine alex_nil ?_
      | refine w0 ?_
      | (apply Y_conv; exact rfl; (first
      | exact si64
      | exact su64
      | exact su8
      | exact si32); (first
      | exact ui64
      | exact uu64
      | exact uu8
      | exact ui32))
      | (apply Y_shl; exact rfl; exact rfl; exact (by decide))
      | (apply Y_shr; exact rfl; exact rfl; exact (by decide))
      | (apply Y_addw (k := .u64); exact rfl; exact rfl)
      | (apply Y_subw (k := .u64); exact rfl; exact rfl)
      | (apply Y_mulw (k := .u64); exact rfl; exact rfl)
      | (apply Y_neg; exact rfl)
      | (apply Y_neqb; exact rfl; exact rfl; exact ubool)
      | (apply Y_eqlb; exact rfl; exact rfl; exact ubool)
      | (apply Y_idx_l; exact rfl; exact rfl; exact ustr; omega)
      | (apply Y_len_l; exact rfl; exact ustr)
      | (apply Y_subw (k := .u8); exact rfl; exact rfl)
      | (refine Y_call hb_back (back_ok _ (by omega)) (CoL_d rfl CoL_nil))
      | (refine Y_call hb_back (back_ok _ (by rw [wrap_u64]; omega)) (CoL_d rfl CoL_nil))
      | (refine Y_call hb_rShow (rShow_ok _) (CoL_d rfl CoL_nil))
      | (apply Y_neqs; exact rfl; exact rfl)
      | (apply aJ (hd := rfl); (first | exact Co_dd rfl | exact Co_bb rfl rfl rfl | exact Co_nn rfl); exact rfl; exact (by first | exact es_i64s | exact es_u8s); assumption; omega; exact fun _ => rfl)
      | (apply aI (hd := rfl); (first | exact Co_dd rfl | exact Co_bb rfl rfl rfl | exact Co_nn rfl); exact rfl; exact (by first | exact es_i64s | exact es_u8s); exact fun _ => rfl; rotate_left; intro v hv; rotate_right)
      | (apply aApp (hd := rfl) (hro := rfl); exact rfl; exact rfl; (first | exact Co_dd rfl | exact Co_bb rfl rfl rfl | exact Co_nn rfl); (first | exact rfl | (simp; done)); exact rfl; exact (by first | exact ety_i64s | exact ety_u8s); exact (by first | exact es_i64s | exact es_u8s); exact (by first | exact zl_i64 | exact zl_u8); exact (by first | exact by_i64s | exact by_u8s); (first | exact sz_map (fun _ => rfl) | exact sz_lit rfl))
      | (apply aBox (hd := rfl) (hro := rfl); exact rfl; exact rfl)
      | (apply aAlloc (hd := rfl) (hro := rfl); exact (by first | exact zo_i64))
      | apply ay (hd := rfl)
      | (apply Y_move_d; exact rfl)
      | (apply Y_assign_d; exact rfl)
      | (apply Y_field_r; exact rfl; exact (by first | exact rfl))
      | (apply Y_load_r1; exact rfl; exact (by first | exact tc_i64))
      | (apply Y_load_r; exact rfl; exact (by first | exact tc_i64); exact rfl)
      | (apply Y_len_m; exact rfl; exact (by first | exact et_i64s | exact et_u8s))
      | (apply Y_len_d; exact rfl; exact (by first | exact et_i64s | exact et_u8s))
      | (apply Y_lss; exact rfl; exact rfl)
      | (apply Y_leq; exact rfl; exact rfl)
      | (apply Y_gtr; exact rfl; exact rfl)
      | (apply Y_geq; exact rfl; exact rfl)
      | (apply Y_eql; exact rfl; exact rfl)
      | (apply Y_neq; exact rfl; exact rfl)
      | (apply Y_add; exact rfl; exact rfl)
      | (apply Y_sub; exact rfl; exact rfl)
      | (apply Y_mul; exact rfl; exact rfl)
      | (apply Y_not; exact rfl)
      | (apply Y_pick_t; exact rfl; exact rfl)
      | (apply Y_pick_f; exact rfl; exact rfl)
      | (apply Y_extract; exact rfl; exact rfl)
      | (apply Y_max; exact rfl; exact rfl)
      | (apply Y_move_nil; exact rfl)
      | (apply Y_assign_nil; exact rfl)
      | (apply Y_move_buf; exact rfl)
      | (apply Y_assign_buf; exact rfl)
      | (apply Y_len_buf; exact rfl; exact (by first | exact et_i64s | exact et_u8s))
      | (apply Y_len_nil; exact rfl; exact (by first | exact et_i64s | exact et_u8s))
      | (apply Y_move_ptr; exact rfl)
      | (apply Y_assign_ptr; exact rfl)
      | (apply Y_move_clo; exact rfl)
      | (apply Y_assign_clo; exact rfl)
      | (apply Y_field_p; exact rfl; exact (by first | exact rfl))
      | (apply Y_load_p; exact rfl; exact (by first | exact tc_i64); exact rfl; exact rfl)
      | (apply Y_load_pa; exact rfl; exact (by first | exact tc_i64); exact rfl; exact rfl; exact rfl)
      | (apply Y_sl; (first | exact Co_dd rfl | exact Co_bb rfl rfl rfl | exact Co_nn rfl); exact (by first | exact es_i64s | exact es_u8s); exact rfl; exact rfl; exact fun _ => rfl)
      | (apply Y_sl_l; (first | exact Co_dd rfl | exact Co_bb rfl rfl rfl | exact Co_nn rfl); exact (by first | exact es_i64s | exact es_u8s); exact rfl; exact fun _ => rfl)
      | (apply Y_sl_h; (first | exact Co_dd rfl | exact Co_bb rfl rfl rfl | exact Co_nn rfl); exact (by first | exact es_i64s | exact es_u8s); exact rfl; exact fun _ => rfl)
      | (apply Y_lit0; exact (by first | exact ety_i64s | exact ety_u8s); exact (by first | exact es_i64s | exact es_u8s); exact (by first | exact zs_i64 | exact zs_u8); exact rfl)
      | (apply Y_lit1; exact (by first | exact ety_i64s | exact ety_u8s); exact (by first | exact es_i64s | exact es_u8s); exact (by first | exact zs_i64 | exact zs_u8); exact rfl; exact rfl; (first | exact CoL_d rfl CoL_nil | exact CoL_b rfl rfl rfl CoL_nil | exact CoL_n rfl CoL_nil); exact rfl)
      | (apply Y_lit2; exact (by first | exact ety_i64s | exact ety_u8s); exact (by first | exact es_i64s | exact es_u8s); exact (by first | exact zs_i64 | exact zs_u8); exact rfl; exact rfl; (first | exact CoL_d rfl (CoL_d rfl CoL_nil) | exact CoL_b rfl rfl rfl (CoL_b rfl rfl rfl CoL_nil)); exact rfl)
      | (apply Y_lit3; exact (by first | exact ety_i64s | exact ety_u8s); exact (by first | exact es_i64s | exact es_u8s); exact (by first | exact zs_i64 | exact zs_u8); exact rfl; exact rfl; (exact CoL_d rfl (CoL_d rfl (CoL_d rfl CoL_nil))); exact rfl)
      | (apply Y_lit4; exact (by first | exact ety_i64s | exact ety_u8s); exact (by first | exact es_i64s | exact es_u8s); exact (by first | exact zs_i64 | exact zs_u8); exact rfl; exact rfl; (exact CoL_d rfl (CoL_d rfl (CoL_d rfl (CoL_d rfl CoL_nil)))); exact rfl)
      | (apply Y_mkf; exact rfl)
      | (apply w1; exact rfl; exact rfl)
      | (apply k1 (hd := rfl); exact rfl; exact rfl)
      | (apply k0 (hd := rfl); exact rfl; exact rfl)
      | (apply gD; exact rfl; exact rfl; (intro hb); rotate_left; (intro hb); rotate_right)
      | (apply gN; exact rfl; exact rfl; (intro hb); rotate_left; (intro hb); rotate_right)
      | (apply g1; exact rfl; exact rfl; (intro hb); rotate_left; (intro hb); rotate_right)
      | (refine w0' ?_)
      | (apply aStore; exact rfl; exact rfl; exact rfl; exact (by first | exact tc_i64); exact rfl; exact rfl; exact rfl; exact rfl)
      | (apply awp_condD; exact rfl; (intro hb); rotate_left; (intro hb); rotate_right)
      | (apply awp_condN; exact rfl; (intro hb); rotate_left; (intro hb); rotate_right)
      | (apply awp_condT; exact rfl)
      | (apply awp_condF; exact rfl)
      | (apply awp_cond; exact rfl; (intro hb); rotate_left; (intro hb); rotate_right)
      | refine awp_block ?_
      | refine awp_skip ?_
      | refine awp_ret ?_
      | refine awp_exit ?_
      | refine awp_label ?_
      | refine awp_goto ?_
      | refine awp_draw (by kernel_rfl) (by kernel_rfl) ?_
      | refine en_r ?_
      | refine en_e ?_
      | refine eb_n ?_
      | refine eb_r ?_
      | refine eb_e ?_
      | refine eb_o rfl ?_
      | refine en_g ?_
      | refine eb_g ?_
      | refine ej_n ?_
      | refine ej_r ?_
      | refine ej_e ?_
      | refine ej_g ?_
      | refine rpost_ret ?_
      | (apply res1; exact rfl)
      | (apply res1n; exact rfl)
      | (apply res1b; exact rfl; exact rfl; (first | exact rfl | (simp; done)))
      | (apply res2; exact rfl; exact rfl)
      | (apply res2n; exact rfl; exact rfl)
      | (apply res2b; exact rfl; exact rfl; (first | exact rfl | (simp; done)); exact rfl)
      | exact CoL_nil
      | refine CoL_d rfl ?_
      | refine CoL_b rfl rfl rfl ?_
      | refine CoL_n rfl ?_
      | refine CoL_v rfl ?_
    · rename_i h4; rw [rdN_no (errD h4 (.inl hb))]
    · rename_i h4; exact bl_eq (errD h4 (.inl hb))
    · rename_i h4 h5; rw [rdN_no (errD h4 (.inr hb))]
    · rename_i h4 h5; exact bl_eq (errD h4 (.inr hb))
    · omega
    · rename_i h4 h5
      have hlt : i < (dg s).length := by omega
      have h5 : ¬ (((dg s).getD i 0).toNat : Int) < 48 := h5
      have hb2 : ¬ (((dg s).getD i 0).toNat : Int) > 57 := hb
      have e4 := dvl_take hlt
      have ha : ((dg s).take (i + 1)).all isDig = true := by
        rw [List.take_add_one, List.all_append, hi2, List.getElem?_eq_getElem hlt]
        have e3 : isDig ((dg s).getD i 0) = true := by simp only [isDig, Bool.and_eq_true, decide_eq_true_eq]; omega
        rw [List.getD_eq_getElem?_getD, List.getElem?_eq_getElem hlt] at e3
        simpa using e3
      have e5 := dvl_lt (i + 1) ((dg s).take (i + 1)) (by rw [List.length_take]; omega) ha
      have e6 : (10 : Nat) ^ (i + 1) ≤ 10 ^ 19 := Nat.pow_le_pow_right (by decide) (by omega)
      have e7 : (10 : Nat) ^ 19 = 10000000000000000000 := by decide
      refine ⟨i + 1, ⟨by omega, ha⟩, by omega, Fits_mk (Le_cons rfl (Le_cons rfl (Le_d rfl (u64_eq ?_).symm (Le_cons rfl Le_nil)))) Pre_nil rfl rfl⟩
      show IntKind.u64.wrap (IntKind.u64.wrap (10 * ((dvl ((dg s).take i) : Nat) : Int)) + IntKind.u64.wrap (IntKind.u8.wrap ((((dg s).getD i 0).toNat : Int) - 48))) = _
      rw [e4, wrap_u64, wrap_u64, wrap_u64, wrap_u8]; omega
    · rename_i h4; rw [rdN_no (great_t h4 hb)]
    · rename_i h4; exact bl_eq (great_t h4 hb)
    · rename_i h4 h5 h6; obtain ⟨e1, e2, e3⟩ := neg_t hp h4 h5; rw [e1] at hb; rw [rdN_no (no_ne e2 e3 hb)]
    · rename_i h4 h5 h6; obtain ⟨e1, e2, e3⟩ := neg_t hp h4 h5; rw [e1] at hb; exact bl_eq (no_ne e2 e3 hb)
    · rename_i h4 h5 h6; obtain ⟨e1, e2, e3⟩ := neg_t hp h4 h5; rw [e1] at hb ⊢; rw [rdN_yes (yes_ (by rw [str_size]; omega) hi2 e2 e3 hb)]
    · rename_i h4 h5 h6; obtain ⟨e1, e2, e3⟩ := neg_t hp h4 h5; rw [e1] at hb; exact bl_eq (yes_ (by rw [str_size]; omega) hi2 e2 e3 hb)
    · omega
    · omega
    · omega
    · omega
  · rename_i h1 h2; obtain ⟨hd, hp⟩ := dgB h2; rw [hd] at hb; rw [rdN_no (rd_short hb)]
  · rename_i h1 h2; obtain ⟨hd, hp⟩ := dgB h2; rw [hd] at hb; exact bl_eq (rd_short hb)
  · rename_i h1 h2 h3; obtain ⟨hd, hp⟩ := dgB h2; rw [hd] at hb; rw [rdN_no (rd_over hb)]
  · rename_i h1 h2 h3; obtain ⟨hd, hp⟩ := dgB h2; rw [hd] at hb; exact bl_eq (rd_over hb)
  · rename_i h1 h2 h3; obtain ⟨hd, hp⟩ := dgB h2; rw [hd] at hb
    refine awp_loopF (α := Nat) (fun i => i ≤ (dg s).length ∧ ((dg s).take i).all isDig = true)
      (fun i => [(0, .d (str s)), (4, .d (str (dg s))), (5, .d (u64 ((dvl ((dg s).take i) : Nat) : Int))), (6, .d (i64 (i : Int)))]) (fun _ => []) (fun i => (dg s).length - i) 0 ⟨Nat.zero_le _, rfl⟩
      (Fits_mk (Le_cons rfl (Le_d rfl (str_eq hd.symm) (Le_cons rfl (Le_cons rfl Le_nil)))) Pre_nil rfl rfl) ?_
    rintro i ⟨hi1, hi2⟩
    repeat' first
      | refine en_n ?_
      | refine awp_seq ?_
      | refine awp_region ?_
      | refine alex_nil ?_
      | refine w0 ?_
      | (apply Y_conv; exact rfl; (first
      | exact si64
      | exact su64
      | exact su8
      | exact si32); (first
      | exact ui64
      | exact uu64
      | exact uu8
      | exact ui32))
      | (apply Y_shl; exact rfl; exact rfl; exact (by decide))
      | (apply Y_shr; exact rfl; exact rfl; exact (by decide))
      | (apply Y_addw (k := .u64); exact rfl; exact rfl)
      | (apply Y_subw (k := .u64); exact rfl; exact rfl)
      | (apply Y_mulw (k := .u64); exact rfl; exact rfl)
      | (apply Y_neg; exact rfl)
      | (apply Y_neqb; exact rfl; exact rfl; exact ubool)
      | (apply Y_eqlb; exact rfl; exact rfl; exact ubool)
      | (apply Y_idx_l; exact rfl; exact rfl; exact ustr; omega)
      | (apply Y_len_l; exact rfl; exact ustr)
      | (apply Y_subw (k := .u8); exact rfl; exact rfl)
      | (refine Y_call hb_back (back_ok _ (by omega)) (CoL_d rfl CoL_nil))
      | (refine Y_call hb_back (back_ok _ (by rw [wrap_u64]; omega)) (CoL_d rfl CoL_nil))
      | (refine Y_call hb_rShow (rShow_ok _) (CoL_d rfl CoL_nil))
      | (apply Y_neqs; exact rfl; exact rfl)
      | (apply aJ (hd := rfl); (first | exact Co_dd rfl | exact Co_bb rfl rfl rfl | exact Co_nn rfl); exact rfl; exact (by first | exact es_i64s | exact es_u8s); assumption; omega; exact fun _ => rfl)
      | (apply aI (hd := rfl); (first | exact Co_dd rfl | exact Co_bb rfl rfl rfl | exact Co_nn rfl); exact rfl; exact (by first | exact es_i64s | exact es_u8s); exact fun _ => rfl; rotate_left; intro v hv; rotate_right)
      | (apply aApp (hd := rfl) (hro := rfl); exact rfl; exact rfl; (first | exact Co_dd rfl | exact Co_bb rfl rfl rfl | exact Co_nn rfl); (first | exact rfl | (simp; done)); exact rfl; exact (by first | exact ety_i64s | exact ety_u8s); exact (by first | exact es_i64s | exact es_u8s); exact (by first | exact zl_i64 | exact zl_u8); exact (by first | exact by_i64s | exact by_u8s); (first | exact sz_map (fun _ => rfl) | exact sz_lit rfl))
      | (apply aBox (hd := rfl) (hro := rfl); exact rfl; exact rfl)
      | (apply aAlloc (hd := rfl) (hro := rfl); exact (by first | exact zo_i64))
      | apply ay (hd := rfl)
      | (apply Y_move_d; exact rfl)
      | (apply Y_assign_d; exact rfl)
      | (apply Y_field_r; exact rfl; exact (by first | exact rfl))
      | (apply Y_load_r1; exact rfl; exact (by first | exact tc_i64))
      | (apply Y_load_r; exact rfl; exact (by first | exact tc_i64); exact rfl)
      | (apply Y_len_m; exact rfl; exact (by first | exact et_i64s | exact et_u8s))
      | (apply Y_len_d; exact rfl; exact (by first | exact et_i64s | exact et_u8s))
      | (apply Y_lss; exact rfl; exact rfl)
      | (apply Y_leq; exact rfl; exact rfl)
      | (apply Y_gtr; exact rfl; exact rfl)
      | (apply Y_geq; exact rfl; exact rfl)
      | (apply Y_eql; exact rfl; exact rfl)
      | (apply Y_neq; exact rfl; exact rfl)
      | (apply Y_add; exact rfl; exact rfl)
      | (apply Y_sub; exact rfl; exact rfl)
      | (apply Y_mul; exact rfl; exact rfl)
      | (apply Y_not; exact rfl)
      | (apply Y_pick_t; exact rfl; exact rfl)
      | (apply Y_pick_f; exact rfl; exact rfl)
      | (apply Y_extract; exact rfl; exact rfl)
      | (apply Y_max; exact rfl; exact rfl)
      | (apply Y_move_nil; exact rfl)
      | (apply Y_assign_nil; exact rfl)
      | (apply Y_move_buf; exact rfl)
      | (apply Y_assign_buf; exact rfl)
      | (apply Y_len_buf; exact rfl; exact (by first | exact et_i64s | exact et_u8s))
      | (apply Y_len_nil; exact rfl; exact (by first | exact et_i64s | exact et_u8s))
      | (apply Y_move_ptr; exact rfl)
      | (apply Y_assign_ptr; exact rfl)
      | (apply Y_move_clo; exact rfl)
      | (apply Y_assign_clo; exact rfl)
      | (apply Y_field_p; exact rfl; exact (by first | exact rfl))
      | (apply Y_load_p; exact rfl; exact (by first | exact tc_i64); exact rfl; exact rfl)
      | (apply Y_load_pa; exact rfl; exact (by first | exact tc_i64); exact rfl; exact rfl; exact rfl)
      | (apply Y_sl; (first | exact Co_dd rfl | exact Co_bb rfl rfl rfl | exact Co_nn rfl); exact (by first | exact es_i64s | exact es_u8s); exact rfl; exact rfl; exact fun _ => rfl)
      | (apply Y_sl_l; (first | exact Co_dd rfl | exact Co_bb rfl rfl rfl | exact Co_nn rfl); exact (by first | exact es_i64s | exact es_u8s); exact rfl; exact fun _ => rfl)
      | (apply Y_sl_h; (first | exact Co_dd rfl | exact Co_bb rfl rfl rfl | exact Co_nn rfl); exact (by first | exact es_i64s | exact es_u8s); exact rfl; exact fun _ => rfl)
      | (apply Y_lit0; exact (by first | exact ety_i64s | exact ety_u8s); exact (by first | exact es_i64s | exact es_u8s); exact (by first | exact zs_i64 | exact zs_u8); exact rfl)
      | (apply Y_lit1; exact (by first | exact ety_i64s | exact ety_u8s); exact (by first | exact es_i64s | exact es_u8s); exact (by first | exact zs_i64 | exact zs_u8); exact rfl; exact rfl; (first | exact CoL_d rfl CoL_nil | exact CoL_b rfl rfl rfl CoL_nil | exact CoL_n rfl CoL_nil); exact rfl)
      | (apply Y_lit2; exact (by first | exact ety_i64s | exact ety_u8s); exact (by first | exact es_i64s | exact es_u8s); exact (by first | exact zs_i64 | exact zs_u8); exact rfl; exact rfl; (first | exact CoL_d rfl (CoL_d rfl CoL_nil) | exact CoL_b rfl rfl rfl (CoL_b rfl rfl rfl CoL_nil)); exact rfl)
      | (apply Y_lit3; exact (by first | exact ety_i64s | exact ety_u8s); exact (by first | exact es_i64s | exact es_u8s); exact (by first | exact zs_i64 | exact zs_u8); exact rfl; exact rfl; (exact CoL_d rfl (CoL_d rfl (CoL_d rfl CoL_nil))); exact rfl)
      | (apply Y_lit4; exact (by first | exact ety_i64s | exact ety_u8s); exact (by first | exact es_i64s | exact es_u8s); exact (by first | exact zs_i64 | exact zs_u8); exact rfl; exact rfl; (exact CoL_d rfl (CoL_d rfl (CoL_d rfl (CoL_d rfl CoL_nil)))); exact rfl)
      | (apply Y_mkf; exact rfl)
      | (apply w1; exact rfl; exact rfl)
      | (apply k1 (hd := rfl); exact rfl; exact rfl)
      | (apply k0 (hd := rfl); exact rfl; exact rfl)
      | (apply gD; exact rfl; exact rfl; (intro hb); rotate_left; (intro hb); rotate_right)
      | (apply gN; exact rfl; exact rfl; (intro hb); rotate_left; (intro hb); rotate_right)
      | (apply g1; exact rfl; exact rfl; (intro hb); rotate_left; (intro hb); rotate_right)
      | (refine w0' ?_)
      | (apply aStore; exact rfl; exact rfl; exact rfl; exact (by first | exact tc_i64); exact rfl; exact rfl; exact rfl; exact rfl)
      | (apply awp_condD; exact rfl; (intro hb); rotate_left; (intro hb); rotate_right)
      | (apply awp_condN; exact rfl; (intro hb); rotate_left; (intro hb); rotate_right)
      | (apply awp_condT; exact rfl)
      | (apply awp_condF; exact rfl)
      | (apply awp_cond; exact rfl; (intro hb); rotate_left; (intro hb); rotate_right)
      | refine awp_block ?_
      | refine awp_skip ?_
      | refine awp_ret ?_
      | refine awp_exit ?_
      | refine awp_label ?_
      | refine awp_goto ?_
      | refine awp_draw (by kernel_rfl) (by kernel_rfl) ?_
      | refine en_r ?_
      | refine en_e ?_
      | refine eb_n ?_
      | refine eb_r ?_
      | refine eb_e ?_
      | refine eb_o rfl ?_
      | refine en_g ?_
      | refine eb_g ?_
      | refine ej_n ?_
      | refine ej_r ?_
      | refine ej_e ?_
      | refine ej_g ?_
      | refine rpost_ret ?_
      | (apply res1; exact rfl)
      | (apply res1n; exact rfl)
      | (apply res1b; exact rfl; exact rfl; (first | exact rfl | (simp; done)))
      | (apply res2; exact rfl; exact rfl)
      | (apply res2n; exact rfl; exact rfl)
      | (apply res2b; exact rfl; exact rfl; (first | exact rfl | (simp; done)); exact rfl)
      | exact CoL_nil
      | refine CoL_d rfl ?_
      | refine CoL_b rfl rfl rfl ?_
      | refine CoL_n rfl ?_
      | refine CoL_v rfl ?_
    · rename_i h4; rw [rdN_no (errD h4 (.inl hb))]
    · rename_i h4; exact bl_eq (errD h4 (.inl hb))
    · rename_i h4 h5; rw [rdN_no (errD h4 (.inr hb))]
    · rename_i h4 h5; exact bl_eq (errD h4 (.inr hb))
    · omega
    · rename_i h4 h5
      have hlt : i < (dg s).length := by omega
      have h5 : ¬ (((dg s).getD i 0).toNat : Int) < 48 := h5
      have hb2 : ¬ (((dg s).getD i 0).toNat : Int) > 57 := hb
      have e4 := dvl_take hlt
      have ha : ((dg s).take (i + 1)).all isDig = true := by
        rw [List.take_add_one, List.all_append, hi2, List.getElem?_eq_getElem hlt]
        have e3 : isDig ((dg s).getD i 0) = true := by simp only [isDig, Bool.and_eq_true, decide_eq_true_eq]; omega
        rw [List.getD_eq_getElem?_getD, List.getElem?_eq_getElem hlt] at e3
        simpa using e3
      have e5 := dvl_lt (i + 1) ((dg s).take (i + 1)) (by rw [List.length_take]; omega) ha
      have e6 : (10 : Nat) ^ (i + 1) ≤ 10 ^ 19 := Nat.pow_le_pow_right (by decide) (by omega)
      have e7 : (10 : Nat) ^ 19 = 10000000000000000000 := by decide
      refine ⟨i + 1, ⟨by omega, ha⟩, by omega, Fits_mk (Le_cons rfl (Le_cons rfl (Le_d rfl (u64_eq ?_).symm (Le_cons rfl Le_nil)))) Pre_nil rfl rfl⟩
      show IntKind.u64.wrap (IntKind.u64.wrap (10 * ((dvl ((dg s).take i) : Nat) : Int)) + IntKind.u64.wrap (IntKind.u8.wrap ((((dg s).getD i 0).toNat : Int) - 48))) = _
      rw [e4, wrap_u64, wrap_u64, wrap_u64, wrap_u8]; omega
    · rename_i h4; rw [rdN_no (great_t h4 hb)]
    · rename_i h4; exact bl_eq (great_t h4 hb)
    · rename_i h4 h5 h6; rw [← hd] at h6; omega
    · rename_i h4 h5 h6; rw [← hd] at h6; omega
    · rename_i h4 h5 h6; rw [← hd] at h6; omega
    · rename_i h4 h5 h6; rw [← hd] at h6; omega
    · rename_i h4 h5 h6; rw [rdN_no (pos_no hp h4 h5 hb)]
    · rename_i h4 h5 h6; exact bl_eq (pos_no hp h4 h5 hb)
    · rename_i h4 h5 h6; obtain ⟨e1, e2⟩ := pos_ok hp h4 hi2 h5 hb; rw [rdN_yes e1, e2]
    · rename_i h4 h5 h6; exact bl_eq (pos_ok hp h4 hi2 h5 hb).1
  · rename_i h1; obtain ⟨hd, hp⟩ := dgC h1; rw [hd] at hb; rw [rdN_no (rd_short hb)]
  · rename_i h1; obtain ⟨hd, hp⟩ := dgC h1; rw [hd] at hb; exact bl_eq (rd_short hb)
  · rename_i h1 h3; obtain ⟨hd, hp⟩ := dgC h1; rw [hd] at hb; rw [rdN_no (rd_over hb)]
  · rename_i h1 h3; obtain ⟨hd, hp⟩ := dgC h1; rw [hd] at hb; exact bl_eq (rd_over hb)
  · rename_i h1 h3; obtain ⟨hd, hp⟩ := dgC h1; rw [hd] at hb
    refine awp_loopF (α := Nat) (fun i => i ≤ (dg s).length ∧ ((dg s).take i).all isDig = true)
      (fun i => [(0, .d (str s)), (4, .d (str (dg s))), (5, .d (u64 ((dvl ((dg s).take i) : Nat) : Int))), (6, .d (i64 (i : Int)))]) (fun _ => []) (fun i => (dg s).length - i) 0 ⟨Nat.zero_le _, rfl⟩
      (Fits_mk (Le_cons rfl (Le_d rfl (str_eq hd.symm) (Le_cons rfl (Le_cons rfl Le_nil)))) Pre_nil rfl rfl) ?_
    rintro i ⟨hi1, hi2⟩
    repeat' first
      | refine en_n ?_
      | refine awp_seq ?_
      | refine awp_region ?_
      | refine alex_nil ?_
      | refine w0 ?_
      | (apply Y_conv; exact rfl; (first
      | exact si64
      | exact su64
      | exact su8
      | exact si32); (first
      | exact ui64
      | exact uu64
      | exact uu8
      | exact ui32))
      | (apply Y_shl; exact rfl; exact rfl; exact (by decide))
      | (apply Y_shr; exact rfl; exact rfl; exact (by decide))
      | (apply Y_addw (k := .u64); exact rfl; exact rfl)
      | (apply Y_subw (k := .u64); exact rfl; exact rfl)
      | (apply Y_mulw (k := .u64); exact rfl; exact rfl)
      | (apply Y_neg; exact rfl)
      | (apply Y_neqb; exact rfl; exact rfl; exact ubool)
      | (apply Y_eqlb; exact rfl; exact rfl; exact ubool)
      | (apply Y_idx_l; exact rfl; exact rfl; exact ustr; omega)
      | (apply Y_len_l; exact rfl; exact ustr)
      | (apply Y_subw (k := .u8); exact rfl; exact rfl)
      | (refine Y_call hb_back (back_ok _ (by omega)) (CoL_d rfl CoL_nil))
      | (refine Y_call hb_back (back_ok _ (by rw [wrap_u64]; omega)) (CoL_d rfl CoL_nil))
      | (refine Y_call hb_rShow (rShow_ok _) (CoL_d rfl CoL_nil))
      | (apply Y_neqs; exact rfl; exact rfl)
      | (apply aJ (hd := rfl); (first | exact Co_dd rfl | exact Co_bb rfl rfl rfl | exact Co_nn rfl); exact rfl; exact (by first | exact es_i64s | exact es_u8s); assumption; omega; exact fun _ => rfl)
      | (apply aI (hd := rfl); (first | exact Co_dd rfl | exact Co_bb rfl rfl rfl | exact Co_nn rfl); exact rfl; exact (by first | exact es_i64s | exact es_u8s); exact fun _ => rfl; rotate_left; intro v hv; rotate_right)
      | (apply aApp (hd := rfl) (hro := rfl); exact rfl; exact rfl; (first | exact Co_dd rfl | exact Co_bb rfl rfl rfl | exact Co_nn rfl); (first | exact rfl | (simp; done)); exact rfl; exact (by first | exact ety_i64s | exact ety_u8s); exact (by first | exact es_i64s | exact es_u8s); exact (by first | exact zl_i64 | exact zl_u8); exact (by first | exact by_i64s | exact by_u8s); (first | exact sz_map (fun _ => rfl) | exact sz_lit rfl))
      | (apply aBox (hd := rfl) (hro := rfl); exact rfl; exact rfl)
      | (apply aAlloc (hd := rfl) (hro := rfl); exact (by first | exact zo_i64))
      | apply ay (hd := rfl)
      | (apply Y_move_d; exact rfl)
      | (apply Y_assign_d; exact rfl)
      | (apply Y_field_r; exact rfl; exact (by first | exact rfl))
      | (apply Y_load_r1; exact rfl; exact (by first | exact tc_i64))
      | (apply Y_load_r; exact rfl; exact (by first | exact tc_i64); exact rfl)
      | (apply Y_len_m; exact rfl; exact (by first | exact et_i64s | exact et_u8s))
      | (apply Y_len_d; exact rfl; exact (by first | exact et_i64s | exact et_u8s))
      | (apply Y_lss; exact rfl; exact rfl)
      | (apply Y_leq; exact rfl; exact rfl)
      | (apply Y_gtr; exact rfl; exact rfl)
      | (apply Y_geq; exact rfl; exact rfl)
      | (apply Y_eql; exact rfl; exact rfl)
      | (apply Y_neq; exact rfl; exact rfl)
      | (apply Y_add; exact rfl; exact rfl)
      | (apply Y_sub; exact rfl; exact rfl)
      | (apply Y_mul; exact rfl; exact rfl)
      | (apply Y_not; exact rfl)
      | (apply Y_pick_t; exact rfl; exact rfl)
      | (apply Y_pick_f; exact rfl; exact rfl)
      | (apply Y_extract; exact rfl; exact rfl)
      | (apply Y_max; exact rfl; exact rfl)
      | (apply Y_move_nil; exact rfl)
      | (apply Y_assign_nil; exact rfl)
      | (apply Y_move_buf; exact rfl)
      | (apply Y_assign_buf; exact rfl)
      | (apply Y_len_buf; exact rfl; exact (by first | exact et_i64s | exact et_u8s))
      | (apply Y_len_nil; exact rfl; exact (by first | exact et_i64s | exact et_u8s))
      | (apply Y_move_ptr; exact rfl)
      | (apply Y_assign_ptr; exact rfl)
      | (apply Y_move_clo; exact rfl)
      | (apply Y_assign_clo; exact rfl)
      | (apply Y_field_p; exact rfl; exact (by first | exact rfl))
      | (apply Y_load_p; exact rfl; exact (by first | exact tc_i64); exact rfl; exact rfl)
      | (apply Y_load_pa; exact rfl; exact (by first | exact tc_i64); exact rfl; exact rfl; exact rfl)
      | (apply Y_sl; (first | exact Co_dd rfl | exact Co_bb rfl rfl rfl | exact Co_nn rfl); exact (by first | exact es_i64s | exact es_u8s); exact rfl; exact rfl; exact fun _ => rfl)
      | (apply Y_sl_l; (first | exact Co_dd rfl | exact Co_bb rfl rfl rfl | exact Co_nn rfl); exact (by first | exact es_i64s | exact es_u8s); exact rfl; exact fun _ => rfl)
      | (apply Y_sl_h; (first | exact Co_dd rfl | exact Co_bb rfl rfl rfl | exact Co_nn rfl); exact (by first | exact es_i64s | exact es_u8s); exact rfl; exact fun _ => rfl)
      | (apply Y_lit0; exact (by first | exact ety_i64s | exact ety_u8s); exact (by first | exact es_i64s | exact es_u8s); exact (by first | exact zs_i64 | exact zs_u8); exact rfl)
      | (apply Y_lit1; exact (by first | exact ety_i64s | exact ety_u8s); exact (by first | exact es_i64s | exact es_u8s); exact (by first | exact zs_i64 | exact zs_u8); exact rfl; exact rfl; (first | exact CoL_d rfl CoL_nil | exact CoL_b rfl rfl rfl CoL_nil | exact CoL_n rfl CoL_nil); exact rfl)
      | (apply Y_lit2; exact (by first | exact ety_i64s | exact ety_u8s); exact (by first | exact es_i64s | exact es_u8s); exact (by first | exact zs_i64 | exact zs_u8); exact rfl; exact rfl; (first | exact CoL_d rfl (CoL_d rfl CoL_nil) | exact CoL_b rfl rfl rfl (CoL_b rfl rfl rfl CoL_nil)); exact rfl)
      | (apply Y_lit3; exact (by first | exact ety_i64s | exact ety_u8s); exact (by first | exact es_i64s | exact es_u8s); exact (by first | exact zs_i64 | exact zs_u8); exact rfl; exact rfl; (exact CoL_d rfl (CoL_d rfl (CoL_d rfl CoL_nil))); exact rfl)
      | (apply Y_lit4; exact (by first | exact ety_i64s | exact ety_u8s); exact (by first | exact es_i64s | exact es_u8s); exact (by first | exact zs_i64 | exact zs_u8); exact rfl; exact rfl; (exact CoL_d rfl (CoL_d rfl (CoL_d rfl (CoL_d rfl CoL_nil)))); exact rfl)
      | (apply Y_mkf; exact rfl)
      | (apply w1; exact rfl; exact rfl)
      | (apply k1 (hd := rfl); exact rfl; exact rfl)
      | (apply k0 (hd := rfl); exact rfl; exact rfl)
      | (apply gD; exact rfl; exact rfl; (intro hb); rotate_left; (intro hb); rotate_right)
      | (apply gN; exact rfl; exact rfl; (intro hb); rotate_left; (intro hb); rotate_right)
      | (apply g1; exact rfl; exact rfl; (intro hb); rotate_left; (intro hb); rotate_right)
      | (refine w0' ?_)
      | (apply aStore; exact rfl; exact rfl; exact rfl; exact (by first | exact tc_i64); exact rfl; exact rfl; exact rfl; exact rfl)
      | (apply awp_condD; exact rfl; (intro hb); rotate_left; (intro hb); rotate_right)
      | (apply awp_condN; exact rfl; (intro hb); rotate_left; (intro hb); rotate_right)
      | (apply awp_condT; exact rfl)
      | (apply awp_condF; exact rfl)
      | (apply awp_cond; exact rfl; (intro hb); rotate_left; (intro hb); rotate_right)
      | refine awp_block ?_
      | refine awp_skip ?_
      | refine awp_ret ?_
      | refine awp_exit ?_
      | refine awp_label ?_
      | refine awp_goto ?_
      | refine awp_draw (by kernel_rfl) (by kernel_rfl) ?_
      | refine en_r ?_
      | refine en_e ?_
      | refine eb_n ?_
      | refine eb_r ?_
      | refine eb_e ?_
      | refine eb_o rfl ?_
      | refine en_g ?_
      | refine eb_g ?_
      | refine ej_n ?_
      | refine ej_r ?_
      | refine ej_e ?_
      | refine ej_g ?_
      | refine rpost_ret ?_
      | (apply res1; exact rfl)
      | (apply res1n; exact rfl)
      | (apply res1b; exact rfl; exact rfl; (first | exact rfl | (simp; done)))
      | (apply res2; exact rfl; exact rfl)
      | (apply res2n; exact rfl; exact rfl)
      | (apply res2b; exact rfl; exact rfl; (first | exact rfl | (simp; done)); exact rfl)
      | exact CoL_nil
      | refine CoL_d rfl ?_
      | refine CoL_b rfl rfl rfl ?_
      | refine CoL_n rfl ?_
      | refine CoL_v rfl ?_
    · rename_i h4; rw [rdN_no (errD h4 (.inl hb))]
    · rename_i h4; exact bl_eq (errD h4 (.inl hb))
    · rename_i h4 h5; rw [rdN_no (errD h4 (.inr hb))]
    · rename_i h4 h5; exact bl_eq (errD h4 (.inr hb))
    · omega
    · rename_i h4 h5
      have hlt : i < (dg s).length := by omega
      have h5 : ¬ (((dg s).getD i 0).toNat : Int) < 48 := h5
      have hb2 : ¬ (((dg s).getD i 0).toNat : Int) > 57 := hb
      have e4 := dvl_take hlt
      have ha : ((dg s).take (i + 1)).all isDig = true := by
        rw [List.take_add_one, List.all_append, hi2, List.getElem?_eq_getElem hlt]
        have e3 : isDig ((dg s).getD i 0) = true := by simp only [isDig, Bool.and_eq_true, decide_eq_true_eq]; omega
        rw [List.getD_eq_getElem?_getD, List.getElem?_eq_getElem hlt] at e3
        simpa using e3
      have e5 := dvl_lt (i + 1) ((dg s).take (i + 1)) (by rw [List.length_take]; omega) ha
      have e6 : (10 : Nat) ^ (i + 1) ≤ 10 ^ 19 := Nat.pow_le_pow_right (by decide) (by omega)
      have e7 : (10 : Nat) ^ 19 = 10000000000000000000 := by decide
      refine ⟨i + 1, ⟨by omega, ha⟩, by omega, Fits_mk (Le_cons rfl (Le_cons rfl (Le_d rfl (u64_eq ?_).symm (Le_cons rfl Le_nil)))) Pre_nil rfl rfl⟩
      show IntKind.u64.wrap (IntKind.u64.wrap (10 * ((dvl ((dg s).take i) : Nat) : Int)) + IntKind.u64.wrap (IntKind.u8.wrap ((((dg s).getD i 0).toNat : Int) - 48))) = _
      rw [e4, wrap_u64, wrap_u64, wrap_u64, wrap_u8]; omega
    · rename_i h4; rw [rdN_no (great_t h4 hb)]
    · rename_i h4; exact bl_eq (great_t h4 hb)
    · rename_i h4 h5 h6; rw [← hd] at h6; omega
    · rename_i h4 h5 h6; rw [← hd] at h6; omega
    · rename_i h4 h5 h6; rw [← hd] at h6; omega
    · rename_i h4 h5 h6; rw [← hd] at h6; omega
    · rename_i h4 h5 h6; rw [rdN_no (pos_no hp h4 h5 hb)]
    · rename_i h4 h5 h6; exact bl_eq (pos_no hp h4 h5 hb)
    · rename_i h4 h5 h6; obtain ⟨e1, e2⟩ := pos_ok hp h4 hi2 h5 hb; rw [rdN_yes e1, e2]
    · rename_i h4 h5 h6; exact bl_eq (pos_ok hp h4 hi2 h5 hb).1
end Go.Proofs.YtbegnjhfhnaagaaDoor
