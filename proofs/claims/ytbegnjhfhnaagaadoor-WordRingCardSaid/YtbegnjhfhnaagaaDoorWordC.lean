/- The word statements: numbers as texts. -/
import Derived.Test.YtbegnjhfhnaagaaDoorWordB
import Derived.Lib.CutLaws
namespace Go.Proofs.YtbegnjhfhnaagaaDoor
open Go.Sx
attribute [local irreducible] Ylds astep alex alexE alexD awp PCall FCall RCall athen ablock ajump rpost fpost

/-! ### digits -/
theorem digit_ofNat {k : Nat} (h : k < 10) : (UInt8.ofNat (48 + k)).toNat = 48 + k := by
  rw [UInt8.toNat_ofNat']; omega
theorem digs_mem (u : Nat) : ∀ d ∈ Lib.decDigits u, 48 ≤ d.toNat ∧ d.toNat ≤ 57 := by
  induction u using Nat.strongRecOn with
  | _ u ih =>
    intro d hd
    rw [Lib.decDigits] at hd
    split at hd
    · rename_i h
      rw [List.mem_singleton] at hd
      rw [hd, digit_ofNat h]; omega
    · rename_i h
      rcases List.mem_append.1 hd with hd | hd
      · exact ih (u / 10) (by omega) d hd
      · rw [List.mem_singleton] at hd
        rw [hd, digit_ofNat (Nat.mod_lt _ (by decide))]; omega
theorem digs_ne (u : Nat) : Lib.decDigits u ≠ [] := by
  rw [Lib.decDigits]; split <;> simp
theorem digs_cons (u : Nat) : ∃ c r, Lib.decDigits u = c :: r ∧ 48 ≤ c.toNat ∧ c.toNat ≤ 57 := by
  cases h : Lib.decDigits u with
  | nil => exact absurd h (digs_ne u)
  | cons c r => exact ⟨c, r, rfl, digs_mem u c (by rw [h]; simp)⟩
theorem digs_len (u : Nat) (h : u < 18446744073709551616) : (Lib.decDigits u).length ≤ 20 := by
  rw [Lib.decDigits_length]; exact Lib.nDigits_le20 u h

/-- the text of a number of the language -/
def shw (n : Int) : List UInt8 := if n < 0 then 126 :: Lib.decDigits n.natAbs else Lib.decDigits n.natAbs

theorem shw_eq (n : Int) : Lib.replace (Lib.itoa n) [45] [126] 1 = shw n := by
  rw [Lib.replace, if_neg (by decide)]
  unfold Lib.itoa shw
  split
  · rename_i h
    have h1 : Lib.replaceNum (45 :: Lib.decDigits n.natAbs) [45] 1 = 1 := by
      rw [Lib.replaceNum, Lib.count_cons_eq, if_neg (by omega)]; rfl
    rw [h1, Lib.replaceK_hit [45] [126] 0 _ 0 (by rw [Lib.index]; rfl)]
    simp [Lib.replaceK]
  · rename_i h
    have h2 : Lib.count (Lib.decDigits n.toNat) [45] = 0 := by
      rw [Lib.count_one, List.count_eq_zero]
      intro hm
      have := digs_mem _ _ hm
      exact absurd this.1 (by decide)
    have h1 : Lib.replaceNum (Lib.decDigits n.toNat) [45] 1 = 0 := by
      rw [Lib.replaceNum, h2, if_pos (by omega)]
    rw [h1, Lib.replaceK, show n.toNat = n.natAbs by omega]
theorem shw_len (n : Int) (h : -9223372036854775808 ≤ n ∧ n ≤ 9223372036854775807) : (shw n).length ≤ 21 := by
  have := digs_len n.natAbs (by omega)
  unfold shw; split
  · rw [List.length_cons]; omega
  · omega

theorem str_eq {a b : List UInt8} (h : a = b) : str a = str b := by rw [h]

theorem wShow_ok (n : Int) : PCall Tryd.prog 23 [i64 n] (str (shw (W n))) := by
  have hw := W_bd n
  refine pcall_of Tryd.func23 rfl Tryd.ntmps23 Tryd.results23 rfl ?_
  intro wb St0
  repeat' first
    | refine en_n ?_
    | refine awp_seq ?_
    | refine awp_region ?_
    | refine alex_nil ?_
    | refine w0 ?_
    | (apply Y_conv; exact rfl; (first
    | exact si64
    | exact su64
    | exact su8
    | exact si32); (first
    | exact ui64
    | exact uu64
    | exact uu8
    | exact ui32))
    | (apply Y_shl; exact rfl; exact rfl; exact (by decide))
    | (apply Y_shr; exact rfl; exact rfl; exact (by decide))
    | (apply Y_addw (k := .u64); exact rfl; exact rfl)
    | (apply Y_subw (k := .u64); exact rfl; exact rfl)
    | (apply Y_mulw (k := .u64); exact rfl; exact rfl)
    | (apply Y_neg; exact rfl)
    | (apply Y_neqb; exact rfl; exact rfl; exact ubool)
    | (apply Y_eqlb; exact rfl; exact rfl; exact ubool)
    | (refine Y_call hb_wWrap (wWrap_ok _) (CoL_d rfl CoL_nil))
    | (refine Y_call hb_FormatInt (FormatInt_ok (W n) (by omega) (by omega)) (CoL_d rfl (CoL_d rfl CoL_nil)))
    | (refine Y_call hb_Replace (Replace_ok (Lib.itoa (W n)) [45] [126] 1 (by decide) (Nat.le_trans (Lib.itoa_length_le (W n) (by omega) (by omega)) (by decide)) (by decide)) (CoL_d rfl (CoL_d rfl (CoL_d rfl (CoL_d rfl CoL_nil)))))
    | (apply aJ (hd := rfl); (first | exact Co_dd rfl | exact Co_bb rfl rfl rfl | exact Co_nn rfl); exact rfl; exact (by first | exact es_i64s | exact es_u8s); assumption; omega; exact fun _ => rfl)
    | (apply aI (hd := rfl); (first | exact Co_dd rfl | exact Co_bb rfl rfl rfl | exact Co_nn rfl); exact rfl; exact (by first | exact es_i64s | exact es_u8s); exact fun _ => rfl; rotate_left; intro v hv; rotate_right)
    | (apply aApp (hd := rfl) (hro := rfl); exact rfl; exact rfl; (first | exact Co_dd rfl | exact Co_bb rfl rfl rfl | exact Co_nn rfl); (first | exact rfl | (simp; done)); exact rfl; exact (by first | exact ety_i64s | exact ety_u8s); exact (by first | exact es_i64s | exact es_u8s); exact (by first | exact zl_i64 | exact zl_u8); exact (by first | exact by_i64s | exact by_u8s); (first | exact sz_map (fun _ => rfl) | exact sz_lit rfl))
    | (apply aBox (hd := rfl) (hro := rfl); exact rfl; exact rfl)
    | (apply aAlloc (hd := rfl) (hro := rfl); exact (by first | exact zo_i64))
    | apply ay (hd := rfl)
    | (apply Y_move_d; exact rfl)
    | (apply Y_assign_d; exact rfl)
    | (apply Y_field_r; exact rfl; exact (by first | exact rfl))
    | (apply Y_load_r1; exact rfl; exact (by first | exact tc_i64))
    | (apply Y_load_r; exact rfl; exact (by first | exact tc_i64); exact rfl)
    | (apply Y_len_m; exact rfl; exact (by first | exact et_i64s | exact et_u8s))
    | (apply Y_len_d; exact rfl; exact (by first | exact et_i64s | exact et_u8s))
    | (apply Y_lss; exact rfl; exact rfl)
    | (apply Y_leq; exact rfl; exact rfl)
    | (apply Y_gtr; exact rfl; exact rfl)
    | (apply Y_geq; exact rfl; exact rfl)
    | (apply Y_eql; exact rfl; exact rfl)
    | (apply Y_neq; exact rfl; exact rfl)
    | (apply Y_add; exact rfl; exact rfl)
    | (apply Y_sub; exact rfl; exact rfl)
    | (apply Y_mul; exact rfl; exact rfl)
    | (apply Y_not; exact rfl)
    | (apply Y_pick_t; exact rfl; exact rfl)
    | (apply Y_pick_f; exact rfl; exact rfl)
    | (apply Y_extract; exact rfl; exact rfl)
    | (apply Y_max; exact rfl; exact rfl)
    | (apply Y_move_nil; exact rfl)
    | (apply Y_assign_nil; exact rfl)
    | (apply Y_move_buf; exact rfl)
    | (apply Y_assign_buf; exact rfl)
    | (apply Y_len_buf; exact rfl; exact (by first | exact et_i64s | exact et_u8s))
    | (apply Y_len_nil; exact rfl; exact (by first | exact et_i64s | exact et_u8s))
    | (apply Y_move_ptr; exact rfl)
    | (apply Y_assign_ptr; exact rfl)
    | (apply Y_move_clo; exact rfl)
    | (apply Y_assign_clo; exact rfl)
    | (apply Y_field_p; exact rfl; exact (by first | exact rfl))
    | (apply Y_load_p; exact rfl; exact (by first | exact tc_i64); exact rfl; exact rfl)
    | (apply Y_load_pa; exact rfl; exact (by first | exact tc_i64); exact rfl; exact rfl; exact rfl)
    | (apply Y_sl; (first | exact Co_dd rfl | exact Co_bb rfl rfl rfl | exact Co_nn rfl); exact (by first | exact es_i64s | exact es_u8s); exact rfl; exact rfl; exact fun _ => rfl)
    | (apply Y_sl_l; (first | exact Co_dd rfl | exact Co_bb rfl rfl rfl | exact Co_nn rfl); exact (by first | exact es_i64s | exact es_u8s); exact rfl; exact fun _ => rfl)
    | (apply Y_sl_h; (first | exact Co_dd rfl | exact Co_bb rfl rfl rfl | exact Co_nn rfl); exact (by first | exact es_i64s | exact es_u8s); exact rfl; exact fun _ => rfl)
    | (apply Y_lit0; exact (by first | exact ety_i64s | exact ety_u8s); exact (by first | exact es_i64s | exact es_u8s); exact (by first | exact zs_i64 | exact zs_u8); exact rfl)
    | (apply Y_lit1; exact (by first | exact ety_i64s | exact ety_u8s); exact (by first | exact es_i64s | exact es_u8s); exact (by first | exact zs_i64 | exact zs_u8); exact rfl; exact rfl; (first | exact CoL_d rfl CoL_nil | exact CoL_b rfl rfl rfl CoL_nil | exact CoL_n rfl CoL_nil); exact rfl)
    | (apply Y_lit2; exact (by first | exact ety_i64s | exact ety_u8s); exact (by first | exact es_i64s | exact es_u8s); exact (by first | exact zs_i64 | exact zs_u8); exact rfl; exact rfl; (first | exact CoL_d rfl (CoL_d rfl CoL_nil) | exact CoL_b rfl rfl rfl (CoL_b rfl rfl rfl CoL_nil)); exact rfl)
    | (apply Y_lit3; exact (by first | exact ety_i64s | exact ety_u8s); exact (by first | exact es_i64s | exact es_u8s); exact (by first | exact zs_i64 | exact zs_u8); exact rfl; exact rfl; (exact CoL_d rfl (CoL_d rfl (CoL_d rfl CoL_nil))); exact rfl)
    | (apply Y_lit4; exact (by first | exact ety_i64s | exact ety_u8s); exact (by first | exact es_i64s | exact es_u8s); exact (by first | exact zs_i64 | exact zs_u8); exact rfl; exact rfl; (exact CoL_d rfl (CoL_d rfl (CoL_d rfl (CoL_d rfl CoL_nil)))); exact rfl)
    | (apply Y_mkf; exact rfl)
    | (apply w1; exact rfl; exact rfl)
    | (apply k1 (hd := rfl); exact rfl; exact rfl)
    | (apply k0 (hd := rfl); exact rfl; exact rfl)
    | (apply gD; exact rfl; exact rfl; (intro hb); rotate_left; (intro hb); rotate_right)
    | (apply gN; exact rfl; exact rfl; (intro hb); rotate_left; (intro hb); rotate_right)
    | (apply g1; exact rfl; exact rfl; (intro hb); rotate_left; (intro hb); rotate_right)
    | (refine w0' ?_)
    | (apply aStore; exact rfl; exact rfl; exact rfl; exact (by first | exact tc_i64); exact rfl; exact rfl; exact rfl; exact rfl)
    | (apply awp_condD; exact rfl; (intro hb); rotate_left; (intro hb); rotate_right)
    | (apply awp_condN; exact rfl; (intro hb); rotate_left; (intro hb); rotate_right)
    | (apply awp_condT; exact rfl)
    | (apply awp_condF; exact rfl)
    | (apply awp_cond; exact rfl; (intro hb); rotate_left; (intro hb); rotate_right)
    | refine awp_block ?_
    | refine awp_skip ?_
    | refine awp_ret ?_
    | refine awp_exit ?_
    | refine awp_label ?_
    | refine awp_goto ?_
    | refine awp_draw (by kernel_rfl) (by kernel_rfl) ?_
    | refine en_r ?_
    | refine en_e ?_
    | refine eb_n ?_
    | refine eb_r ?_
    | refine eb_e ?_
    | refine eb_o rfl ?_
    | refine en_g ?_
    | refine eb_g ?_
    | refine ej_n ?_
    | refine ej_r ?_
    | refine ej_e ?_
    | refine ej_g ?_
    | refine rpost_ret ?_
    | (apply res1; exact rfl)
    | (apply res1n; exact rfl)
    | (apply res1b; exact rfl; exact rfl; (first | exact rfl | (simp; done)))
    | (apply res2; exact rfl; exact rfl)
    | (apply res2n; exact rfl; exact rfl)
    | (apply res2b; exact rfl; exact rfl; (first | exact rfl | (simp; done)); exact rfl)
    | exact CoL_nil
    | refine CoL_d rfl ?_
    | refine CoL_b rfl rfl rfl ?_
    | refine CoL_n rfl ?_
    | refine CoL_v rfl ?_
  exact str_eq (shw_eq _)

/-! ### the document's text -/
theorem show_step (U m : Nat) (s : List UInt8) (hi : (s = [] ∧ m = U) ∨ (s ≠ [] ∧ m = 0 ∧ s = Lib.decDigits U) ∨ (s ≠ [] ∧ 0 < m ∧ m ≤ U ∧ Lib.decDigits m ++ s = Lib.decDigits U)) (hc : s = [] ∨ 0 < m) :
    (UInt8.ofNat (48 + m % 10) :: s ≠ [] ∧ m / 10 = 0 ∧ UInt8.ofNat (48 + m % 10) :: s = Lib.decDigits U) ∨
      (UInt8.ofNat (48 + m % 10) :: s ≠ [] ∧ 0 < m / 10 ∧ m / 10 ≤ U ∧ Lib.decDigits (m / 10) ++ UInt8.ofNat (48 + m % 10) :: s = Lib.decDigits U) := by
  have e : Lib.decDigits m ++ s = Lib.decDigits U ∧ m ≤ U := by
    rcases hi with ⟨h1, h2⟩ | ⟨h1, h2, _⟩ | ⟨_, _, h3, h4⟩
    · rw [h1, h2]; simp
    · rcases hc with hc | hc
      · exact absurd hc h1
      · omega
    · exact ⟨h4, h3⟩
  obtain ⟨e, hm⟩ := e
  by_cases h10 : m < 10
  · rw [Lib.decDigits, dif_pos h10] at e
    refine .inl ⟨by simp, by omega, ?_⟩
    rw [show m % 10 = m by omega, ← e]; rfl
  · rw [Lib.decDigits, dif_neg h10] at e
    refine .inr ⟨by simp, by omega, by omega, ?_⟩
    rw [← e, List.append_assoc]; rfl
def smu (p : Nat × List UInt8) : Nat := match p.2 with | [] => p.1 + 1 | _ => p.1
theorem show_mu (m : Nat) (c : UInt8) (s : List UInt8) (hc : s = [] ∨ 0 < m) : smu (m / 10, c :: s) < smu (m, s) := by
  cases s with
  | nil => show m / 10 < m + 1; omega
  | cons x r =>
    show m / 10 < m
    rcases hc with hc | hc
    · cases hc
    · omega
theorem show_byte (m : Nat) : IntKind.u8.wrap (IntKind.u64.wrap (48 + (m : Int).tmod 10)) = ((48 + m % 10 : Nat) : Int) := by
  rw [show (m : Int).tmod 10 = ((m % 10 : Nat) : Int) from rfl, wrap_u8, wrap_u64]; omega
theorem show_quo (m : Nat) (h : m < 18446744073709551616) : IntKind.u64.wrap ((m : Int).tdiv 10) = ((m / 10 : Nat) : Int) := by
  rw [show (m : Int).tdiv 10 = ((m / 10 : Nat) : Int) from rfl, wrap_u64]; omega

theorem rShow_ok (n : Int) : PCall Tryd.prog 26 [i64 n] (str (shw (W n))) := by
  have hw := W_bd n
  refine pcall_of Tryd.func26 rfl Tryd.ntmps26 Tryd.results26 rfl ?_
  intro wb St0
  have hlen := digs_len (W n).natAbs (by omega)
  repeat' first
    | refine en_n ?_
    | refine awp_seq ?_
    | refine awp_region ?_
    | refine alex_nil ?_
    | refine w0 ?_
    | (apply Y_conv; exact rfl; (first
    | exact si64
    | exact su64
    | exact su8
    | exact si32); (first
    | exact ui64
    | exact uu64
    | exact uu8
    | exact ui32))
    | (apply Y_shl; exact rfl; exact rfl; exact (by decide))
    | (apply Y_shr; exact rfl; exact rfl; exact (by decide))
    | (apply Y_addw (k := .u64); exact rfl; exact rfl)
    | (apply Y_subw (k := .u64); exact rfl; exact rfl)
    | (apply Y_mulw (k := .u64); exact rfl; exact rfl)
    | (apply Y_neg; exact rfl)
    | (apply Y_neqb; exact rfl; exact rfl; exact ubool)
    | (apply Y_eqlb; exact rfl; exact rfl; exact ubool)
    | (refine Y_call hb_rWrap (rWrap_ok _) (CoL_d rfl CoL_nil))
    | (refine Y_call hb_size (size_ok _ (W_bd _)) (CoL_d rfl CoL_nil))
    | (apply aJ (hd := rfl); (first | exact Co_dd rfl | exact Co_bb rfl rfl rfl | exact Co_nn rfl); exact rfl; exact (by first | exact es_i64s | exact es_u8s); assumption; omega; exact fun _ => rfl)
    | (apply aI (hd := rfl); (first | exact Co_dd rfl | exact Co_bb rfl rfl rfl | exact Co_nn rfl); exact rfl; exact (by first | exact es_i64s | exact es_u8s); exact fun _ => rfl; rotate_left; intro v hv; rotate_right)
    | (apply aApp (hd := rfl) (hro := rfl); exact rfl; exact rfl; (first | exact Co_dd rfl | exact Co_bb rfl rfl rfl | exact Co_nn rfl); (first | exact rfl | (simp; done)); exact rfl; exact (by first | exact ety_i64s | exact ety_u8s); exact (by first | exact es_i64s | exact es_u8s); exact (by first | exact zl_i64 | exact zl_u8); exact (by first | exact by_i64s | exact by_u8s); (first | exact sz_map (fun _ => rfl) | exact sz_lit rfl))
    | (apply aBox (hd := rfl) (hro := rfl); exact rfl; exact rfl)
    | (apply aAlloc (hd := rfl) (hro := rfl); exact (by first | exact zo_i64))
    | apply ay (hd := rfl)
    | (apply Y_move_d; exact rfl)
    | (apply Y_assign_d; exact rfl)
    | (apply Y_field_r; exact rfl; exact (by first | exact rfl))
    | (apply Y_load_r1; exact rfl; exact (by first | exact tc_i64))
    | (apply Y_load_r; exact rfl; exact (by first | exact tc_i64); exact rfl)
    | (apply Y_len_m; exact rfl; exact (by first | exact et_i64s | exact et_u8s))
    | (apply Y_len_d; exact rfl; exact (by first | exact et_i64s | exact et_u8s))
    | (apply Y_lss; exact rfl; exact rfl)
    | (apply Y_leq; exact rfl; exact rfl)
    | (apply Y_gtr; exact rfl; exact rfl)
    | (apply Y_geq; exact rfl; exact rfl)
    | (apply Y_eql; exact rfl; exact rfl)
    | (apply Y_neq; exact rfl; exact rfl)
    | (apply Y_add; exact rfl; exact rfl)
    | (apply Y_sub; exact rfl; exact rfl)
    | (apply Y_mul; exact rfl; exact rfl)
    | (apply Y_not; exact rfl)
    | (apply Y_pick_t; exact rfl; exact rfl)
    | (apply Y_pick_f; exact rfl; exact rfl)
    | (apply Y_extract; exact rfl; exact rfl)
    | (apply Y_max; exact rfl; exact rfl)
    | (apply Y_move_nil; exact rfl)
    | (apply Y_assign_nil; exact rfl)
    | (apply Y_move_buf; exact rfl)
    | (apply Y_assign_buf; exact rfl)
    | (apply Y_len_buf; exact rfl; exact (by first | exact et_i64s | exact et_u8s))
    | (apply Y_len_nil; exact rfl; exact (by first | exact et_i64s | exact et_u8s))
    | (apply Y_move_ptr; exact rfl)
    | (apply Y_assign_ptr; exact rfl)
    | (apply Y_move_clo; exact rfl)
    | (apply Y_assign_clo; exact rfl)
    | (apply Y_field_p; exact rfl; exact (by first | exact rfl))
    | (apply Y_load_p; exact rfl; exact (by first | exact tc_i64); exact rfl; exact rfl)
    | (apply Y_load_pa; exact rfl; exact (by first | exact tc_i64); exact rfl; exact rfl; exact rfl)
    | (apply Y_sl; (first | exact Co_dd rfl | exact Co_bb rfl rfl rfl | exact Co_nn rfl); exact (by first | exact es_i64s | exact es_u8s); exact rfl; exact rfl; exact fun _ => rfl)
    | (apply Y_sl_l; (first | exact Co_dd rfl | exact Co_bb rfl rfl rfl | exact Co_nn rfl); exact (by first | exact es_i64s | exact es_u8s); exact rfl; exact fun _ => rfl)
    | (apply Y_sl_h; (first | exact Co_dd rfl | exact Co_bb rfl rfl rfl | exact Co_nn rfl); exact (by first | exact es_i64s | exact es_u8s); exact rfl; exact fun _ => rfl)
    | (apply Y_lit0; exact (by first | exact ety_i64s | exact ety_u8s); exact (by first | exact es_i64s | exact es_u8s); exact (by first | exact zs_i64 | exact zs_u8); exact rfl)
    | (apply Y_lit1; exact (by first | exact ety_i64s | exact ety_u8s); exact (by first | exact es_i64s | exact es_u8s); exact (by first | exact zs_i64 | exact zs_u8); exact rfl; exact rfl; (first | exact CoL_d rfl CoL_nil | exact CoL_b rfl rfl rfl CoL_nil | exact CoL_n rfl CoL_nil); exact rfl)
    | (apply Y_lit2; exact (by first | exact ety_i64s | exact ety_u8s); exact (by first | exact es_i64s | exact es_u8s); exact (by first | exact zs_i64 | exact zs_u8); exact rfl; exact rfl; (first | exact CoL_d rfl (CoL_d rfl CoL_nil) | exact CoL_b rfl rfl rfl (CoL_b rfl rfl rfl CoL_nil)); exact rfl)
    | (apply Y_lit3; exact (by first | exact ety_i64s | exact ety_u8s); exact (by first | exact es_i64s | exact es_u8s); exact (by first | exact zs_i64 | exact zs_u8); exact rfl; exact rfl; (exact CoL_d rfl (CoL_d rfl (CoL_d rfl CoL_nil))); exact rfl)
    | (apply Y_lit4; exact (by first | exact ety_i64s | exact ety_u8s); exact (by first | exact es_i64s | exact es_u8s); exact (by first | exact zs_i64 | exact zs_u8); exact rfl; exact rfl; (exact CoL_d rfl (CoL_d rfl (CoL_d rfl (CoL_d rfl CoL_nil)))); exact rfl)
    | (apply Y_mkf; exact rfl)
    | (apply w1; exact rfl; exact rfl)
    | (apply k1 (hd := rfl); exact rfl; exact rfl)
    | (apply k0 (hd := rfl); exact rfl; exact rfl)
    | (apply gD; exact rfl; exact rfl; (intro hb); rotate_left; (intro hb); rotate_right)
    | (apply gN; exact rfl; exact rfl; (intro hb); rotate_left; (intro hb); rotate_right)
    | (apply g1; exact rfl; exact rfl; (intro hb); rotate_left; (intro hb); rotate_right)
    | (refine w0' ?_)
    | (apply aStore; exact rfl; exact rfl; exact rfl; exact (by first | exact tc_i64); exact rfl; exact rfl; exact rfl; exact rfl)
    | (apply awp_condD; exact rfl; (intro hb); rotate_left; (intro hb); rotate_right)
    | (apply awp_condN; exact rfl; (intro hb); rotate_left; (intro hb); rotate_right)
    | (apply awp_condT; exact rfl)
    | (apply awp_condF; exact rfl)
    | (apply awp_cond; exact rfl; (intro hb); rotate_left; (intro hb); rotate_right)
    | refine awp_block ?_
    | refine awp_skip ?_
    | refine awp_ret ?_
    | refine awp_exit ?_
    | refine awp_label ?_
    | refine awp_goto ?_
    | refine awp_draw (by kernel_rfl) (by kernel_rfl) ?_
    | refine en_r ?_
    | refine en_e ?_
    | refine eb_n ?_
    | refine eb_r ?_
    | refine eb_e ?_
    | refine eb_o rfl ?_
    | refine en_g ?_
    | refine eb_g ?_
    | refine ej_n ?_
    | refine ej_r ?_
    | refine ej_e ?_
    | refine ej_g ?_
    | refine rpost_ret ?_
    | (apply res1; exact rfl)
    | (apply res1n; exact rfl)
    | (apply res1b; exact rfl; exact rfl; (first | exact rfl | (simp; done)))
    | (apply res2; exact rfl; exact rfl)
    | (apply res2n; exact rfl; exact rfl)
    | (apply res2b; exact rfl; exact rfl; (first | exact rfl | (simp; done)); exact rfl)
    | exact CoL_nil
    | refine CoL_d rfl ?_
    | refine CoL_b rfl rfl rfl ?_
    | refine CoL_n rfl ?_
    | refine CoL_v rfl ?_
  refine awp_loopF (α := Nat × List UInt8) (fun p => (p.2 = [] ∧ p.1 = (W n).natAbs) ∨ (p.2 ≠ [] ∧ p.1 = 0 ∧ p.2 = Lib.decDigits (W n).natAbs) ∨ (p.2 ≠ [] ∧ 0 < p.1 ∧ p.1 ≤ (W n).natAbs ∧ Lib.decDigits p.1 ++ p.2 = Lib.decDigits (W n).natAbs))
      (fun p => [(0, .d (i64 (W n))), (3, .d (str p.2)), (4, .d (u64 (p.1 : Int)))]) (fun _ => []) smu ((W n).natAbs, []) (.inl ⟨rfl, rfl⟩)
      (Fits_mk (Le_cons rfl (Le_cons rfl (Le_cons rfl Le_nil))) Pre_nil rfl rfl) ?_
  rintro ⟨m, s⟩ hi
  dsimp only at hi ⊢
  have hmb : m ≤ (W n).natAbs := by omega
  have hsl : s.length ≤ 20 := by
    rcases hi with ⟨h1, _⟩ | ⟨_, _, h1⟩ | ⟨_, _, _, h1⟩
    · rw [h1]; simp
    · rw [h1]; exact hlen
    · have := congrArg List.length h1
      rw [List.length_append] at this; omega
  repeat' first
    | refine en_n ?_
    | refine awp_seq ?_
    | refine awp_region ?_
    | refine alex_nil ?_
    | refine w0 ?_
    | (apply Y_eqs; exact rfl; exact rfl)
    | (apply Y_b2s (ns := [_]); exact rfl; exact uu8s; exact uu8; exact ustr; exact (by simp))
    | (apply Y_cat_l; exact rfl; exact rfl; exact (by simp; omega))
    | (apply Y_rem; exact rfl; exact rfl; exact (by decide))
    | (apply Y_quo; exact rfl; exact rfl; exact (by decide))
    | (apply Y_conv; exact rfl; (first
    | exact si64
    | exact su64
    | exact su8
    | exact si32); (first
    | exact ui64
    | exact uu64
    | exact uu8
    | exact ui32))
    | (apply Y_shl; exact rfl; exact rfl; exact (by decide))
    | (apply Y_shr; exact rfl; exact rfl; exact (by decide))
    | (apply Y_addw (k := .u64); exact rfl; exact rfl)
    | (apply Y_subw (k := .u64); exact rfl; exact rfl)
    | (apply Y_mulw (k := .u64); exact rfl; exact rfl)
    | (apply Y_neg; exact rfl)
    | (apply Y_neqb; exact rfl; exact rfl; exact ubool)
    | (apply Y_eqlb; exact rfl; exact rfl; exact ubool)
    | (apply aJ (hd := rfl); (first | exact Co_dd rfl | exact Co_bb rfl rfl rfl | exact Co_nn rfl); exact rfl; exact (by first | exact es_i64s | exact es_u8s); assumption; omega; exact fun _ => rfl)
    | (apply aI (hd := rfl); (first | exact Co_dd rfl | exact Co_bb rfl rfl rfl | exact Co_nn rfl); exact rfl; exact (by first | exact es_i64s | exact es_u8s); exact fun _ => rfl; rotate_left; intro v hv; rotate_right)
    | (apply aApp (hd := rfl) (hro := rfl); exact rfl; exact rfl; (first | exact Co_dd rfl | exact Co_bb rfl rfl rfl | exact Co_nn rfl); (first | exact rfl | (simp; done)); exact rfl; exact (by first | exact ety_i64s | exact ety_u8s); exact (by first | exact es_i64s | exact es_u8s); exact (by first | exact zl_i64 | exact zl_u8); exact (by first | exact by_i64s | exact by_u8s); (first | exact sz_map (fun _ => rfl) | exact sz_lit rfl))
    | (apply aBox (hd := rfl) (hro := rfl); exact rfl; exact rfl)
    | (apply aAlloc (hd := rfl) (hro := rfl); exact (by first | exact zo_i64))
    | apply ay (hd := rfl)
    | (apply Y_move_d; exact rfl)
    | (apply Y_assign_d; exact rfl)
    | (apply Y_field_r; exact rfl; exact (by first | exact rfl))
    | (apply Y_load_r1; exact rfl; exact (by first | exact tc_i64))
    | (apply Y_load_r; exact rfl; exact (by first | exact tc_i64); exact rfl)
    | (apply Y_len_m; exact rfl; exact (by first | exact et_i64s | exact et_u8s))
    | (apply Y_len_d; exact rfl; exact (by first | exact et_i64s | exact et_u8s))
    | (apply Y_lss; exact rfl; exact rfl)
    | (apply Y_leq; exact rfl; exact rfl)
    | (apply Y_gtr; exact rfl; exact rfl)
    | (apply Y_geq; exact rfl; exact rfl)
    | (apply Y_eql; exact rfl; exact rfl)
    | (apply Y_neq; exact rfl; exact rfl)
    | (apply Y_add; exact rfl; exact rfl)
    | (apply Y_sub; exact rfl; exact rfl)
    | (apply Y_mul; exact rfl; exact rfl)
    | (apply Y_not; exact rfl)
    | (apply Y_pick_t; exact rfl; exact rfl)
    | (apply Y_pick_f; exact rfl; exact rfl)
    | (apply Y_extract; exact rfl; exact rfl)
    | (apply Y_max; exact rfl; exact rfl)
    | (apply Y_move_nil; exact rfl)
    | (apply Y_assign_nil; exact rfl)
    | (apply Y_move_buf; exact rfl)
    | (apply Y_assign_buf; exact rfl)
    | (apply Y_len_buf; exact rfl; exact (by first | exact et_i64s | exact et_u8s))
    | (apply Y_len_nil; exact rfl; exact (by first | exact et_i64s | exact et_u8s))
    | (apply Y_move_ptr; exact rfl)
    | (apply Y_assign_ptr; exact rfl)
    | (apply Y_move_clo; exact rfl)
    | (apply Y_assign_clo; exact rfl)
    | (apply Y_field_p; exact rfl; exact (by first | exact rfl))
    | (apply Y_load_p; exact rfl; exact (by first | exact tc_i64); exact rfl; exact rfl)
    | (apply Y_load_pa; exact rfl; exact (by first | exact tc_i64); exact rfl; exact rfl; exact rfl)
    | (apply Y_sl; (first | exact Co_dd rfl | exact Co_bb rfl rfl rfl | exact Co_nn rfl); exact (by first | exact es_i64s | exact es_u8s); exact rfl; exact rfl; exact fun _ => rfl)
    | (apply Y_sl_l; (first | exact Co_dd rfl | exact Co_bb rfl rfl rfl | exact Co_nn rfl); exact (by first | exact es_i64s | exact es_u8s); exact rfl; exact fun _ => rfl)
    | (apply Y_sl_h; (first | exact Co_dd rfl | exact Co_bb rfl rfl rfl | exact Co_nn rfl); exact (by first | exact es_i64s | exact es_u8s); exact rfl; exact fun _ => rfl)
    | (apply Y_lit0; exact (by first | exact ety_i64s | exact ety_u8s); exact (by first | exact es_i64s | exact es_u8s); exact (by first | exact zs_i64 | exact zs_u8); exact rfl)
    | (apply Y_lit1; exact (by first | exact ety_i64s | exact ety_u8s); exact (by first | exact es_i64s | exact es_u8s); exact (by first | exact zs_i64 | exact zs_u8); exact rfl; exact rfl; (first | exact CoL_d rfl CoL_nil | exact CoL_b rfl rfl rfl CoL_nil | exact CoL_n rfl CoL_nil); exact rfl)
    | (apply Y_lit2; exact (by first | exact ety_i64s | exact ety_u8s); exact (by first | exact es_i64s | exact es_u8s); exact (by first | exact zs_i64 | exact zs_u8); exact rfl; exact rfl; (first | exact CoL_d rfl (CoL_d rfl CoL_nil) | exact CoL_b rfl rfl rfl (CoL_b rfl rfl rfl CoL_nil)); exact rfl)
    | (apply Y_lit3; exact (by first | exact ety_i64s | exact ety_u8s); exact (by first | exact es_i64s | exact es_u8s); exact (by first | exact zs_i64 | exact zs_u8); exact rfl; exact rfl; (exact CoL_d rfl (CoL_d rfl (CoL_d rfl CoL_nil))); exact rfl)
    | (apply Y_lit4; exact (by first | exact ety_i64s | exact ety_u8s); exact (by first | exact es_i64s | exact es_u8s); exact (by first | exact zs_i64 | exact zs_u8); exact rfl; exact rfl; (exact CoL_d rfl (CoL_d rfl (CoL_d rfl (CoL_d rfl CoL_nil)))); exact rfl)
    | (apply Y_mkf; exact rfl)
    | (apply w1; exact rfl; exact rfl)
    | (apply k1 (hd := rfl); exact rfl; exact rfl)
    | (apply k0 (hd := rfl); exact rfl; exact rfl)
    | (apply gD; exact rfl; exact rfl; (intro hb); rotate_left; (intro hb); rotate_right)
    | (apply gN; exact rfl; exact rfl; (intro hb); rotate_left; (intro hb); rotate_right)
    | (apply g1; exact rfl; exact rfl; (intro hb); rotate_left; (intro hb); rotate_right)
    | (refine w0' ?_)
    | (apply aStore; exact rfl; exact rfl; exact rfl; exact (by first | exact tc_i64); exact rfl; exact rfl; exact rfl; exact rfl)
    | (apply awp_condD; exact rfl; (intro hb); rotate_left; (intro hb); rotate_right)
    | (apply awp_condN; exact rfl; (intro hb); rotate_left; (intro hb); rotate_right)
    | (apply awp_condT; exact rfl)
    | (apply awp_condF; exact rfl)
    | (apply awp_cond; exact rfl; (intro hb); rotate_left; (intro hb); rotate_right)
    | refine awp_block ?_
    | refine awp_skip ?_
    | refine awp_ret ?_
    | refine awp_exit ?_
    | refine awp_label ?_
    | refine awp_goto ?_
    | refine awp_draw (by kernel_rfl) (by kernel_rfl) ?_
    | refine en_r ?_
    | refine en_e ?_
    | refine eb_n ?_
    | refine eb_r ?_
    | refine eb_e ?_
    | refine eb_o rfl ?_
    | refine en_g ?_
    | refine eb_g ?_
    | refine ej_n ?_
    | refine ej_r ?_
    | refine ej_e ?_
    | refine ej_g ?_
    | refine rpost_ret ?_
    | (apply res1; exact rfl)
    | (apply res1n; exact rfl)
    | (apply res1b; exact rfl; exact rfl; (first | exact rfl | (simp; done)))
    | (apply res2; exact rfl; exact rfl)
    | (apply res2n; exact rfl; exact rfl)
    | (apply res2b; exact rfl; exact rfl; (first | exact rfl | (simp; done)); exact rfl)
    | exact CoL_nil
    | refine CoL_d rfl ?_
    | refine CoL_b rfl rfl rfl ?_
    | refine CoL_n rfl ?_
    | refine CoL_v rfl ?_
  · refine ⟨(m / 10, UInt8.ofNat (48 + m % 10) :: s), .inr (show_step _ m s hi (.inl hb)), show_mu m _ s (.inl hb), Fits_mk (Le_cons rfl (Le_d rfl (str_eq ?_) (Le_d rfl (u64_eq (show_quo m (by omega))).symm Le_nil))) Pre_nil rfl rfl⟩
    rw [show_byte]; rfl
  · have hm : 0 < m := by omega
    refine ⟨(m / 10, UInt8.ofNat (48 + m % 10) :: s), .inr (show_step _ m s hi (.inr hm)), show_mu m _ s (.inr hm), Fits_mk (Le_cons rfl (Le_d rfl (str_eq ?_) (Le_d rfl (u64_eq (show_quo m (by omega))).symm Le_nil))) Pre_nil rfl rfl⟩
    rw [show_byte]; rfl
  · rename_i h1 h2
    have e : s = Lib.decDigits (W n).natAbs := by
      rcases hi with ⟨h3, _⟩ | ⟨_, _, h3⟩ | ⟨_, h3, _⟩
      · exact absurd h3 h1
      · exact h3
      · omega
    refine str_eq ?_
    rw [shw, if_pos hb, e]; rfl
  · rename_i h1 h2
    have e : s = Lib.decDigits (W n).natAbs := by
      rcases hi with ⟨h3, _⟩ | ⟨_, _, h3⟩ | ⟨_, h3, _⟩
      · exact absurd h3 h1
      · exact h3
      · omega
    refine str_eq ?_
    rw [shw, if_neg hb, e]
end Go.Proofs.YtbegnjhfhnaagaaDoor
