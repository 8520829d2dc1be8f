/- The word statements: the walks of both Reads. -/
import Derived.Test.YtbegnjhfhnaagaaDoorWordD
namespace Go.Proofs.YtbegnjhfhnaagaaDoor
open Go.Sx
attribute [local irreducible] Ylds astep alex alexE alexD awp PCall FCall RCall athen ablock ajump rpost fpost

theorem rdN_no {s : List UInt8} (h : rdOk s = false) : rdN s = 0 := by rw [rdN, h]; rfl
theorem rdE_no {s : List UInt8} (h : rdOk s = false) : rdE s = 11 := by rw [rdE, h]; rfl
theorem rdN_yes {s : List UInt8} (h : rdOk s = true) : rdN s = rdS s := by rw [rdN, h]; rfl
theorem rdE_yes {s : List UInt8} (h : rdOk s = true) : rdE s = 0 := by rw [rdE, h]; rfl

theorem getB {l : List UInt8} {i : Nat} (h : i < (⟨l.toArray⟩ : ByteArray).size) : (⟨l.toArray⟩ : ByteArray)[i]'h = l.getD i 0 := by
  have hlt : i < l.length := by rw [str_size] at h; exact h
  rw [List.getD_eq_getElem?_getD, List.getElem?_eq_getElem hlt]; rfl

/-- what the range hands over -/
theorem dec_dig {l : List UInt8} {i : Nat} (h : i < l.length) (h1 : 48 ≤ ((Utf8.decode ⟨l.toArray⟩ i).1 : Int)) (h2 : ((Utf8.decode ⟨l.toArray⟩ i).1 : Int) ≤ 57) :
    (Utf8.decode ⟨l.toArray⟩ i).1 = (l.getD i 0).toNat ∧ (Utf8.decode ⟨l.toArray⟩ i).2 = 1 ∧ isDig (l.getD i 0) = true := by
  have hs : i < (⟨l.toArray⟩ : ByteArray).size := by rw [str_size]; exact h
  rcases Nat.lt_or_ge ((⟨l.toArray⟩ : ByteArray)[i]'hs).toNat 128 with h3 | h3
  · have e := decode_ascii ⟨l.toArray⟩ i hs h3
    rw [getB hs] at e
    rw [e] at h1 h2 ⊢
    dsimp only at h1 h2
    refine ⟨rfl, rfl, ?_⟩
    simp only [isDig, Bool.and_eq_true, decide_eq_true_eq]; omega
  · have := (decode_high ⟨l.toArray⟩ i hs h3).1
    omega
theorem dec_no {l : List UInt8} {i : Nat} (h : i < l.length) (h1 : ((Utf8.decode ⟨l.toArray⟩ i).1 : Int) < 48 ∨ ((Utf8.decode ⟨l.toArray⟩ i).1 : Int) > 57) : isDig (l.getD i 0) = false := by
  have hs : i < (⟨l.toArray⟩ : ByteArray).size := by rw [str_size]; exact h
  cases hd : isDig (l.getD i 0) with
  | false => rfl
  | true =>
    simp only [isDig, Bool.and_eq_true, decide_eq_true_eq] at hd
    have e := decode_ascii ⟨l.toArray⟩ i hs (by rw [getB hs]; omega)
    rw [getB hs] at e
    rw [e] at h1
    dsimp only at h1
    omega
theorem all_no {l : List UInt8} {i : Nat} (h : i < l.length) (hd : isDig (l.getD i 0) = false) : l.all isDig = false := by
  cases ha : l.all isDig with
  | false => rfl
  | true =>
    have := List.all_eq_true.1 ha (l.getD i 0) (by rw [List.getD_eq_getElem?_getD, List.getElem?_eq_getElem h]; exact List.getElem_mem h)
    rw [hd] at this; cases this
theorem rd_nodig {s : List UInt8} (h : (dg s).all isDig = false) : rdOk s = false := by rw [rdOk, h]; rfl
theorem rd_great {s : List UInt8} (h : 4611686018427387904 < dvl (dg s)) : rdOk s = false := by
  cases hr : rdOk s with
  | false => rfl
  | true =>
    simp only [rdOk, Bool.and_eq_true, decide_eq_true_eq] at hr
    obtain ⟨⟨⟨_, h1⟩, h2⟩, _⟩ := hr
    unfold rdS at h1 h2
    by_cases hp : Lib.hasPrefix s [126] = true
    · rw [if_pos hp] at h1; omega
    · rw [if_neg hp] at h2; omega
theorem err1 {s : List UInt8} {i : Nat} (h : i < (⟨(dg s).toArray⟩ : ByteArray).size) (h1 : ((Utf8.decode ⟨(dg s).toArray⟩ i).1 : Int) < 48 ∨ ((Utf8.decode ⟨(dg s).toArray⟩ i).1 : Int) > 57) : rdOk s = false := by
  rw [str_size] at h
  exact rd_nodig (all_no h (dec_no h h1))
theorem err2 {s : List UInt8} {i : Nat} (h : i < (⟨(dg s).toArray⟩ : ByteArray).size) (h1 : -((dvl ((dg s).take i) : Nat) : Int) < -461168601842738790) : rdOk s = false := by
  rw [str_size] at h
  have := dvl_more h
  exact rd_great (by omega)
theorem end_take {s : List UInt8} {i : Nat} (h : ¬ i < (⟨(dg s).toArray⟩ : ByteArray).size) : (dg s).take i = dg s := by
  rw [str_size] at h
  exact List.take_of_length_le (by omega)
theorem val_pos {s : List UInt8} {i : Nat} (h : ¬ i < (⟨(dg s).toArray⟩ : ByteArray).size) (hp : (!Lib.hasPrefix s [126]) = true) (h3 : dvl ((dg s).take i) ≤ 4611686018427387909) : IntKind.i64.wrap (0 - -((dvl ((dg s).take i) : Nat) : Int)) = rdS s := by
  have hp : Lib.hasPrefix s [126] = false := by simpa using hp
  rw [rdS, hp, wrap_i64, if_neg (by decide)]
  rw [end_take h] at h3 ⊢
  omega
theorem val_neg {s : List UInt8} {i : Nat} (h : ¬ i < (⟨(dg s).toArray⟩ : ByteArray).size) (hp : (!Lib.hasPrefix s [126]) = false) : -((dvl ((dg s).take i) : Nat) : Int) = rdS s := by
  have hp : Lib.hasPrefix s [126] = true := by simpa using hp
  rw [rdS, hp, if_pos rfl, end_take h]
theorem no_gt {s : List UInt8} (h : rdS s > 4611686018427387903) : rdOk s = false := by
  rw [rdOk, decide_eq_false (show ¬ rdS s ≤ 4611686018427387903 by omega)]; simp
theorem no_lt {s : List UInt8} (h : rdS s < -4611686018427387904) : rdOk s = false := by
  rw [rdOk, decide_eq_false (show ¬ -4611686018427387904 ≤ rdS s by omega)]; simp
theorem no_ne {s : List UInt8} (h1 : ¬ rdS s > 4611686018427387903) (h2 : ¬ rdS s < -4611686018427387904) (h : shw (W (rdS s)) ≠ s) : rdOk s = false := by
  rw [W_id (by omega)] at h
  rw [rdOk, decide_eq_false h]; simp
theorem yes_ {s : List UInt8} {i : Nat} (h0 : ¬ i < (⟨(dg s).toArray⟩ : ByteArray).size) (ha : ((dg s).take i).all isDig = true) (h1 : ¬ rdS s > 4611686018427387903) (h2 : ¬ rdS s < -4611686018427387904) (h : ¬ shw (W (rdS s)) ≠ s) : rdOk s = true := by
  rw [W_id (by omega)] at h
  rw [end_take h0] at ha
  rw [rdOk, ha, decide_eq_true (show rdS s ≤ 4611686018427387903 by omega), decide_eq_true (show -4611686018427387904 ≤ rdS s by omega), decide_eq_true (Decidable.not_not.1 h)]; rfl

theorem wRead_ok (s : List UInt8) (hs : s.length ≤ 1000) : PCall Tryd.prog 24 [str s] (.tup [i64 (rdN s), i64 (rdE s)]) := by
  refine pcall_of Tryd.func24 rfl Tryd.ntmps24 Tryd.results24 rfl ?_
  intro wb St0
  repeat' first
    | refine en_n ?_
    | refine awp_seq ?_
    | refine awp_region ?_
    | refine alex_nil ?_
    | refine w0 ?_
    | (apply Y_conv; exact rfl; (first
    | exact si64
    | exact su64
    | exact su8
    | exact si32); (first
    | exact ui64
    | exact uu64
    | exact uu8
    | exact ui32))
    | (apply Y_shl; exact rfl; exact rfl; exact (by decide))
    | (apply Y_shr; exact rfl; exact rfl; exact (by decide))
    | (apply Y_addw (k := .u64); exact rfl; exact rfl)
    | (apply Y_subw (k := .u64); exact rfl; exact rfl)
    | (apply Y_mulw (k := .u64); exact rfl; exact rfl)
    | (apply Y_neg; exact rfl)
    | (apply Y_neqb; exact rfl; exact rfl; exact ubool)
    | (apply Y_eqlb; exact rfl; exact rfl; exact ubool)
    | (apply Y_addw (k := .i64); exact rfl; exact rfl)
    | (apply Y_subw (k := .i64); exact rfl; exact rfl)
    | (apply Y_mulw (k := .i64); exact rfl; exact rfl)
    | (refine Y_call hb_CutPrefix (CutPrefix_ok s [126]) (CoL_d rfl (CoL_d rfl CoL_nil)))
    | (apply aRange (hd := rfl) (hro := rfl); exact rfl; exact ustr)
    | (apply aJ (hd := rfl); (first | exact Co_dd rfl | exact Co_bb rfl rfl rfl | exact Co_nn rfl); exact rfl; exact (by first | exact es_i64s | exact es_u8s); assumption; omega; exact fun _ => rfl)
    | (apply aI (hd := rfl); (first | exact Co_dd rfl | exact Co_bb rfl rfl rfl | exact Co_nn rfl); exact rfl; exact (by first | exact es_i64s | exact es_u8s); exact fun _ => rfl; rotate_left; intro v hv; rotate_right)
    | (apply aApp (hd := rfl) (hro := rfl); exact rfl; exact rfl; (first | exact Co_dd rfl | exact Co_bb rfl rfl rfl | exact Co_nn rfl); (first | exact rfl | (simp; done)); exact rfl; exact (by first | exact ety_i64s | exact ety_u8s); exact (by first | exact es_i64s | exact es_u8s); exact (by first | exact zl_i64 | exact zl_u8); exact (by first | exact by_i64s | exact by_u8s); (first | exact sz_map (fun _ => rfl) | exact sz_lit rfl))
    | (apply aBox (hd := rfl) (hro := rfl); exact rfl; exact rfl)
    | (apply aAlloc (hd := rfl) (hro := rfl); exact (by first | exact zo_i64))
    | apply ay (hd := rfl)
    | (apply Y_move_d; exact rfl)
    | (apply Y_assign_d; exact rfl)
    | (apply Y_field_r; exact rfl; exact (by first | exact rfl))
    | (apply Y_load_r1; exact rfl; exact (by first | exact tc_i64))
    | (apply Y_load_r; exact rfl; exact (by first | exact tc_i64); exact rfl)
    | (apply Y_len_m; exact rfl; exact (by first | exact et_i64s | exact et_u8s))
    | (apply Y_len_d; exact rfl; exact (by first | exact et_i64s | exact et_u8s))
    | (apply Y_lss; exact rfl; exact rfl)
    | (apply Y_leq; exact rfl; exact rfl)
    | (apply Y_gtr; exact rfl; exact rfl)
    | (apply Y_geq; exact rfl; exact rfl)
    | (apply Y_eql; exact rfl; exact rfl)
    | (apply Y_neq; exact rfl; exact rfl)
    | (apply Y_add; exact rfl; exact rfl)
    | (apply Y_sub; exact rfl; exact rfl)
    | (apply Y_mul; exact rfl; exact rfl)
    | (apply Y_not; exact rfl)
    | (apply Y_pick_t; exact rfl; exact rfl)
    | (apply Y_pick_f; exact rfl; exact rfl)
    | (apply Y_extract; exact rfl; exact rfl)
    | (apply Y_max; exact rfl; exact rfl)
    | (apply Y_move_nil; exact rfl)
    | (apply Y_assign_nil; exact rfl)
    | (apply Y_move_buf; exact rfl)
    | (apply Y_assign_buf; exact rfl)
    | (apply Y_len_buf; exact rfl; exact (by first | exact et_i64s | exact et_u8s))
    | (apply Y_len_nil; exact rfl; exact (by first | exact et_i64s | exact et_u8s))
    | (apply Y_move_ptr; exact rfl)
    | (apply Y_assign_ptr; exact rfl)
    | (apply Y_move_clo; exact rfl)
    | (apply Y_assign_clo; exact rfl)
    | (apply Y_field_p; exact rfl; exact (by first | exact rfl))
    | (apply Y_load_p; exact rfl; exact (by first | exact tc_i64); exact rfl; exact rfl)
    | (apply Y_load_pa; exact rfl; exact (by first | exact tc_i64); exact rfl; exact rfl; exact rfl)
    | (apply Y_sl; (first | exact Co_dd rfl | exact Co_bb rfl rfl rfl | exact Co_nn rfl); exact (by first | exact es_i64s | exact es_u8s); exact rfl; exact rfl; exact fun _ => rfl)
    | (apply Y_sl_l; (first | exact Co_dd rfl | exact Co_bb rfl rfl rfl | exact Co_nn rfl); exact (by first | exact es_i64s | exact es_u8s); exact rfl; exact fun _ => rfl)
    | (apply Y_sl_h; (first | exact Co_dd rfl | exact Co_bb rfl rfl rfl | exact Co_nn rfl); exact (by first | exact es_i64s | exact es_u8s); exact rfl; exact fun _ => rfl)
    | (apply Y_lit0; exact (by first | exact ety_i64s | exact ety_u8s); exact (by first | exact es_i64s | exact es_u8s); exact (by first | exact zs_i64 | exact zs_u8); exact rfl)
    | (apply Y_lit1; exact (by first | exact ety_i64s | exact ety_u8s); exact (by first | exact es_i64s | exact es_u8s); exact (by first | exact zs_i64 | exact zs_u8); exact rfl; exact rfl; (first | exact CoL_d rfl CoL_nil | exact CoL_b rfl rfl rfl CoL_nil | exact CoL_n rfl CoL_nil); exact rfl)
    | (apply Y_lit2; exact (by first | exact ety_i64s | exact ety_u8s); exact (by first | exact es_i64s | exact es_u8s); exact (by first | exact zs_i64 | exact zs_u8); exact rfl; exact rfl; (first | exact CoL_d rfl (CoL_d rfl CoL_nil) | exact CoL_b rfl rfl rfl (CoL_b rfl rfl rfl CoL_nil)); exact rfl)
    | (apply Y_lit3; exact (by first | exact ety_i64s | exact ety_u8s); exact (by first | exact es_i64s | exact es_u8s); exact (by first | exact zs_i64 | exact zs_u8); exact rfl; exact rfl; (exact CoL_d rfl (CoL_d rfl (CoL_d rfl CoL_nil))); exact rfl)
    | (apply Y_lit4; exact (by first | exact ety_i64s | exact ety_u8s); exact (by first | exact es_i64s | exact es_u8s); exact (by first | exact zs_i64 | exact zs_u8); exact rfl; exact rfl; (exact CoL_d rfl (CoL_d rfl (CoL_d rfl (CoL_d rfl CoL_nil)))); exact rfl)
    | (apply Y_mkf; exact rfl)
    | (apply w1; exact rfl; exact rfl)
    | (apply k1 (hd := rfl); exact rfl; exact rfl)
    | (apply k0 (hd := rfl); exact rfl; exact rfl)
    | (apply gD; exact rfl; exact rfl; (intro hb); rotate_left; (intro hb); rotate_right)
    | (apply gN; exact rfl; exact rfl; (intro hb); rotate_left; (intro hb); rotate_right)
    | (apply g1; exact rfl; exact rfl; (intro hb); rotate_left; (intro hb); rotate_right)
    | (refine w0' ?_)
    | (apply aStore; exact rfl; exact rfl; exact rfl; exact (by first | exact tc_i64); exact rfl; exact rfl; exact rfl; exact rfl)
    | (apply awp_condD; exact rfl; (intro hb); rotate_left; (intro hb); rotate_right)
    | (apply awp_condN; exact rfl; (intro hb); rotate_left; (intro hb); rotate_right)
    | (apply awp_condT; exact rfl)
    | (apply awp_condF; exact rfl)
    | (apply awp_cond; exact rfl; (intro hb); rotate_left; (intro hb); rotate_right)
    | refine awp_block ?_
    | refine awp_skip ?_
    | refine awp_ret ?_
    | refine awp_exit ?_
    | refine awp_label ?_
    | refine awp_goto ?_
    | refine awp_draw (by kernel_rfl) (by kernel_rfl) ?_
    | refine en_r ?_
    | refine en_e ?_
    | refine eb_n ?_
    | refine eb_r ?_
    | refine eb_e ?_
    | refine eb_o rfl ?_
    | refine en_g ?_
    | refine eb_g ?_
    | refine ej_n ?_
    | refine ej_r ?_
    | refine ej_e ?_
    | refine ej_g ?_
    | refine rpost_ret ?_
    | (apply res1; exact rfl)
    | (apply res1n; exact rfl)
    | (apply res1b; exact rfl; exact rfl; (first | exact rfl | (simp; done)))
    | (apply res2; exact rfl; exact rfl)
    | (apply res2n; exact rfl; exact rfl)
    | (apply res2b; exact rfl; exact rfl; (first | exact rfl | (simp; done)); exact rfl)
    | exact CoL_nil
    | refine CoL_d rfl ?_
    | refine CoL_b rfl rfl rfl ?_
    | refine CoL_n rfl ?_
    | refine CoL_v rfl ?_
  refine awp_loopF (α := Nat) (fun i => i ≤ (dg s).length ∧ ((dg s).take i).all isDig = true ∧ dvl ((dg s).take i) ≤ 4611686018427387909)
    (fun i => [(0, .d (str s)), (5, .d (bl (Lib.hasPrefix s [126]))), (6, .d (i64 (-(dvl ((dg s).take i) : Int)))), (15, .ptr 0 0)]) (fun i => [.iter ⟨(dg s).toArray⟩ i]) (fun i => (dg s).length - i) 0 ⟨Nat.zero_le _, rfl, Nat.zero_le _⟩
      (Fits_mk (Le_cons rfl (Le_cons rfl (Le_cons rfl (Le_cons rfl Le_nil)))) (Pre_cons rfl rfl Pre_nil) rfl rfl) ?_
  rintro i ⟨hi1, hi2, hi3⟩
  repeat' first
    | refine en_n ?_
    | refine awp_seq ?_
    | refine awp_region ?_
    | refine alex_nil ?_
    | refine w0 ?_
    | (apply Y_conv; exact rfl; (first
    | exact si64
    | exact su64
    | exact su8
    | exact si32); (first
    | exact ui64
    | exact uu64
    | exact uu8
    | exact ui32))
    | (apply Y_shl; exact rfl; exact rfl; exact (by decide))
    | (apply Y_shr; exact rfl; exact rfl; exact (by decide))
    | (apply Y_addw (k := .u64); exact rfl; exact rfl)
    | (apply Y_subw (k := .u64); exact rfl; exact rfl)
    | (apply Y_mulw (k := .u64); exact rfl; exact rfl)
    | (apply Y_neg; exact rfl)
    | (apply Y_neqb; exact rfl; exact rfl; exact ubool)
    | (apply Y_eqlb; exact rfl; exact rfl; exact ubool)
    | (apply Y_addw (k := .i64); exact rfl; exact rfl)
    | (apply Y_subw (k := .i64); exact rfl; exact rfl)
    | (apply Y_mulw (k := .i64); exact rfl; exact rfl)
    | (apply aNext (hd := rfl) (hro := rfl); exact rfl; exact rfl; (intro hb); rotate_left; (intro hb); rotate_right)
    | (apply Y_subw (k := .i32); exact rfl; exact rfl)
    | (refine Y_call hb_wShow (wShow_ok _) (CoL_d rfl CoL_nil))
    | (apply Y_neqs; exact rfl; exact rfl)
    | (apply aJ (hd := rfl); (first | exact Co_dd rfl | exact Co_bb rfl rfl rfl | exact Co_nn rfl); exact rfl; exact (by first | exact es_i64s | exact es_u8s); assumption; omega; exact fun _ => rfl)
    | (apply aI (hd := rfl); (first | exact Co_dd rfl | exact Co_bb rfl rfl rfl | exact Co_nn rfl); exact rfl; exact (by first | exact es_i64s | exact es_u8s); exact fun _ => rfl; rotate_left; intro v hv; rotate_right)
    | (apply aApp (hd := rfl) (hro := rfl); exact rfl; exact rfl; (first | exact Co_dd rfl | exact Co_bb rfl rfl rfl | exact Co_nn rfl); (first | exact rfl | (simp; done)); exact rfl; exact (by first | exact ety_i64s | exact ety_u8s); exact (by first | exact es_i64s | exact es_u8s); exact (by first | exact zl_i64 | exact zl_u8); exact (by first | exact by_i64s | exact by_u8s); (first | exact sz_map (fun _ => rfl) | exact sz_lit rfl))
    | (apply aBox (hd := rfl) (hro := rfl); exact rfl; exact rfl)
    | (apply aAlloc (hd := rfl) (hro := rfl); exact (by first | exact zo_i64))
    | apply ay (hd := rfl)
    | (apply Y_move_d; exact rfl)
    | (apply Y_assign_d; exact rfl)
    | (apply Y_field_r; exact rfl; exact (by first | exact rfl))
    | (apply Y_load_r1; exact rfl; exact (by first | exact tc_i64))
    | (apply Y_load_r; exact rfl; exact (by first | exact tc_i64); exact rfl)
    | (apply Y_len_m; exact rfl; exact (by first | exact et_i64s | exact et_u8s))
    | (apply Y_len_d; exact rfl; exact (by first | exact et_i64s | exact et_u8s))
    | (apply Y_lss; exact rfl; exact rfl)
    | (apply Y_leq; exact rfl; exact rfl)
    | (apply Y_gtr; exact rfl; exact rfl)
    | (apply Y_geq; exact rfl; exact rfl)
    | (apply Y_eql; exact rfl; exact rfl)
    | (apply Y_neq; exact rfl; exact rfl)
    | (apply Y_add; exact rfl; exact rfl)
    | (apply Y_sub; exact rfl; exact rfl)
    | (apply Y_mul; exact rfl; exact rfl)
    | (apply Y_not; exact rfl)
    | (apply Y_pick_t; exact rfl; exact rfl)
    | (apply Y_pick_f; exact rfl; exact rfl)
    | (apply Y_extract; exact rfl; exact rfl)
    | (apply Y_max; exact rfl; exact rfl)
    | (apply Y_move_nil; exact rfl)
    | (apply Y_assign_nil; exact rfl)
    | (apply Y_move_buf; exact rfl)
    | (apply Y_assign_buf; exact rfl)
    | (apply Y_len_buf; exact rfl; exact (by first | exact et_i64s | exact et_u8s))
    | (apply Y_len_nil; exact rfl; exact (by first | exact et_i64s | exact et_u8s))
    | (apply Y_move_ptr; exact rfl)
    | (apply Y_assign_ptr; exact rfl)
    | (apply Y_move_clo; exact rfl)
    | (apply Y_assign_clo; exact rfl)
    | (apply Y_field_p; exact rfl; exact (by first | exact rfl))
    | (apply Y_load_p; exact rfl; exact (by first | exact tc_i64); exact rfl; exact rfl)
    | (apply Y_load_pa; exact rfl; exact (by first | exact tc_i64); exact rfl; exact rfl; exact rfl)
    | (apply Y_sl; (first | exact Co_dd rfl | exact Co_bb rfl rfl rfl | exact Co_nn rfl); exact (by first | exact es_i64s | exact es_u8s); exact rfl; exact rfl; exact fun _ => rfl)
    | (apply Y_sl_l; (first | exact Co_dd rfl | exact Co_bb rfl rfl rfl | exact Co_nn rfl); exact (by first | exact es_i64s | exact es_u8s); exact rfl; exact fun _ => rfl)
    | (apply Y_sl_h; (first | exact Co_dd rfl | exact Co_bb rfl rfl rfl | exact Co_nn rfl); exact (by first | exact es_i64s | exact es_u8s); exact rfl; exact fun _ => rfl)
    | (apply Y_lit0; exact (by first | exact ety_i64s | exact ety_u8s); exact (by first | exact es_i64s | exact es_u8s); exact (by first | exact zs_i64 | exact zs_u8); exact rfl)
    | (apply Y_lit1; exact (by first | exact ety_i64s | exact ety_u8s); exact (by first | exact es_i64s | exact es_u8s); exact (by first | exact zs_i64 | exact zs_u8); exact rfl; exact rfl; (first | exact CoL_d rfl CoL_nil | exact CoL_b rfl rfl rfl CoL_nil | exact CoL_n rfl CoL_nil); exact rfl)
    | (apply Y_lit2; exact (by first | exact ety_i64s | exact ety_u8s); exact (by first | exact es_i64s | exact es_u8s); exact (by first | exact zs_i64 | exact zs_u8); exact rfl; exact rfl; (first | exact CoL_d rfl (CoL_d rfl CoL_nil) | exact CoL_b rfl rfl rfl (CoL_b rfl rfl rfl CoL_nil)); exact rfl)
    | (apply Y_lit3; exact (by first | exact ety_i64s | exact ety_u8s); exact (by first | exact es_i64s | exact es_u8s); exact (by first | exact zs_i64 | exact zs_u8); exact rfl; exact rfl; (exact CoL_d rfl (CoL_d rfl (CoL_d rfl CoL_nil))); exact rfl)
    | (apply Y_lit4; exact (by first | exact ety_i64s | exact ety_u8s); exact (by first | exact es_i64s | exact es_u8s); exact (by first | exact zs_i64 | exact zs_u8); exact rfl; exact rfl; (exact CoL_d rfl (CoL_d rfl (CoL_d rfl (CoL_d rfl CoL_nil)))); exact rfl)
    | (apply Y_mkf; exact rfl)
    | (apply w1; exact rfl; exact rfl)
    | (apply k1 (hd := rfl); exact rfl; exact rfl)
    | (apply k0 (hd := rfl); exact rfl; exact rfl)
    | (apply gD; exact rfl; exact rfl; (intro hb); rotate_left; (intro hb); rotate_right)
    | (apply gN; exact rfl; exact rfl; (intro hb); rotate_left; (intro hb); rotate_right)
    | (apply g1; exact rfl; exact rfl; (intro hb); rotate_left; (intro hb); rotate_right)
    | (refine w0' ?_)
    | (apply aStore; exact rfl; exact rfl; exact rfl; exact (by first | exact tc_i64); exact rfl; exact rfl; exact rfl; exact rfl)
    | (apply awp_condD; exact rfl; (intro hb); rotate_left; (intro hb); rotate_right)
    | (apply awp_condN; exact rfl; (intro hb); rotate_left; (intro hb); rotate_right)
    | (apply awp_condT; exact rfl)
    | (apply awp_condF; exact rfl)
    | (apply awp_cond; exact rfl; (intro hb); rotate_left; (intro hb); rotate_right)
    | refine awp_block ?_
    | refine awp_skip ?_
    | refine awp_ret ?_
    | refine awp_exit ?_
    | refine awp_label ?_
    | refine awp_goto ?_
    | refine awp_draw (by kernel_rfl) (by kernel_rfl) ?_
    | refine en_r ?_
    | refine en_e ?_
    | refine eb_n ?_
    | refine eb_r ?_
    | refine eb_e ?_
    | refine eb_o rfl ?_
    | refine en_g ?_
    | refine eb_g ?_
    | refine ej_n ?_
    | refine ej_r ?_
    | refine ej_e ?_
    | refine ej_g ?_
    | refine rpost_ret ?_
    | (apply res1; exact rfl)
    | (apply res1n; exact rfl)
    | (apply res1b; exact rfl; exact rfl; (first | exact rfl | (simp; done)))
    | (apply res2; exact rfl; exact rfl)
    | (apply res2n; exact rfl; exact rfl)
    | (apply res2b; exact rfl; exact rfl; (first | exact rfl | (simp; done)); exact rfl)
    | exact CoL_nil
    | refine CoL_d rfl ?_
    | refine CoL_b rfl rfl rfl ?_
    | refine CoL_n rfl ?_
    | refine CoL_v rfl ?_
  · rename_i h0; rw [rdN_no (err1 h0 (.inl hb))]
  · rename_i h0; rw [rdE_no (err1 h0 (.inl hb))]
  · rename_i h0 h1; rw [rdN_no (err1 h0 (.inr hb))]
  · rename_i h0 h1; rw [rdE_no (err1 h0 (.inr hb))]
  · rename_i h0 h1 h2; rw [rdN_no (err2 h0 hb)]
  · rename_i h0 h1 h2; rw [rdE_no (err2 h0 hb)]
  · rename_i h0 h1 h2
    have hlt : i < (dg s).length := by rw [str_size] at h0; exact h0
    obtain ⟨e1, e2, e3⟩ := dec_dig hlt (by omega) (by omega)
    have e4 := dvl_take hlt
    have e5 := e3
    simp only [isDig, Bool.and_eq_true, decide_eq_true_eq] at e5
    refine ⟨i + 1, ⟨by omega, ?_, by omega⟩, by omega, Fits_mk (Le_cons rfl (Le_cons rfl (Le_d rfl (i64_eq ?_).symm (Le_cons rfl Le_nil)))) (Pre_cons rfl (by rw [e2]) Pre_nil) rfl rfl⟩
    · rw [List.take_add_one, List.all_append, hi2, List.getElem?_eq_getElem hlt]
      rw [List.getD_eq_getElem?_getD, List.getElem?_eq_getElem hlt] at e3
      simpa using e3
    · rw [e1, e4, wrap_i64, wrap_i64, wrap_i64, wrap_i32]; omega
  · rename_i h1 h2; rw [val_pos h1 h2 hi3] at hb; rw [rdN_no (no_gt hb)]
  · rename_i h1 h2; rw [val_pos h1 h2 hi3] at hb; rw [rdE_no (no_gt hb)]
  · rename_i h1 h2 h3; rw [val_pos h1 h2 hi3] at hb; rw [rdN_no (no_lt hb)]
  · rename_i h1 h2 h3; rw [val_pos h1 h2 hi3] at hb; rw [rdE_no (no_lt hb)]
  · rename_i h1 h2 h3 h4; rw [val_pos h1 h2 hi3] at h3 h4 hb; rw [rdN_no (no_ne h3 h4 hb)]
  · rename_i h1 h2 h3 h4; rw [val_pos h1 h2 hi3] at h3 h4 hb; rw [rdE_no (no_ne h3 h4 hb)]
  · rename_i h1 h2 h3 h4; rw [val_pos h1 h2 hi3] at h3 h4 hb ⊢; rw [rdN_yes (yes_ h1 hi2 h3 h4 hb)]
  · rename_i h1 h2 h3 h4; rw [val_pos h1 h2 hi3] at h3 h4 hb; rw [rdE_yes (yes_ h1 hi2 h3 h4 hb)]
  · rename_i h1 h2; rw [val_neg h1 h2] at hb; rw [rdN_no (no_gt hb)]
  · rename_i h1 h2; rw [val_neg h1 h2] at hb; rw [rdE_no (no_gt hb)]
  · rename_i h1 h2 h3; rw [val_neg h1 h2] at hb; rw [rdN_no (no_lt hb)]
  · rename_i h1 h2 h3; rw [val_neg h1 h2] at hb; rw [rdE_no (no_lt hb)]
  · rename_i h1 h2 h3 h4; rw [val_neg h1 h2] at h3 h4 hb; rw [rdN_no (no_ne h3 h4 hb)]
  · rename_i h1 h2 h3 h4; rw [val_neg h1 h2] at h3 h4 hb; rw [rdE_no (no_ne h3 h4 hb)]
  · rename_i h1 h2 h3 h4; rw [val_neg h1 h2] at h3 h4 hb ⊢; rw [rdN_yes (yes_ h1 hi2 h3 h4 hb)]
  · rename_i h1 h2 h3 h4; rw [val_neg h1 h2] at h3 h4 hb; rw [rdE_yes (yes_ h1 hi2 h3 h4 hb)]
end Go.Proofs.YtbegnjhfhnaagaaDoor
