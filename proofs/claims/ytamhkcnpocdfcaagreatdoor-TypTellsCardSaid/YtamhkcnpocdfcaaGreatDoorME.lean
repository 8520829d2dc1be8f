/- Texts of this claim, merged: TypC, TypD, TypE, TypH, TypV, TypW, TypX, TypI, TypS, TypJ, TypY, TypK. -/
import Derived.Shelf.SlSortCmp.WholeK
import Derived.Shelf.SlSortCmp.NoneTotal
import Derived.Shelf.SlicesG.Cmp
import Derived.Ground.SlsfProg
import Derived.Ground.SlgcProg
import Derived.Test.YtamhkcnpocdfcaaGreatDoorMD
/- The statements on types: the walks of NewStore, Fresh, head, whole. -/
namespace Go.Proofs.YtamhkcnpocdfcaaGreatDoor
open Go.Sx
attribute [local irreducible] hasBody Program.underlying Ylds astep alex alexE alexD awp PCall FCall RCall MCall QCall athen ablock ajump rpost fpost mpost rpostC

theorem WOb_et {k : Option Nat} {et : Option TypeId} {cs : List SV} : WOb (.bx k none cs) (.bx k et cs) := fun _ _ _ ⟨b, e, us, h1, h2, h3, h4, h5, h6, h7⟩ => ⟨b, e, us, h1, h2, h3, h4, h5, h6, h7.1, fun _ h => (by cases h)⟩
theorem NewStore_ok (n : Int) : MCall Tryz.prog 22 [.d (i64 n)] [] (.ptr 1 0) [.map none (mSto []), .bx none none [.d (i64 n), .mp 0]] := by
  refine mcall_of Tryz.func22 rfl Tryz.ntmps22 Tryz.results22 rfl rfl rfl ?_
  intro wb St0 X fx
  repeat' first
    | (apply aBuildBox; (with_reducible exact pl_store); (with_reducible exact zo_store); exact PS_cons rfl (PS_cons rfl PS_nil); exact rfl; exact rfl; exact rfl; exact rfl)
    | refine en_n ?_
    | refine awp_seq ?_
    | refine awp_region ?_
    | refine alex_nil ?_
    | refine w0 ?_
    | (apply aMakeMapI (hd := rfl) (hro := rfl); (with_reducible exact mt_51); (with_reducible exact ut_int))
    | apply ay (hd := rfl)
    | (apply Y_move_d; exact rfl)
    | (apply Y_assign_d; exact rfl)
    | (apply Y_assign_ptr; exact rfl)
    | refine awp_ret ?_
  exact mpost_ret (Fits_mk (Le_cons rfl Le_nil) (Pre_cons rfl rfl (Pre_w rfl WOb_et Pre_nil)) rfl rfl)

theorem Fresh_ok (nx : Int) (L : Sto) (h : 0 ≤ nx ∧ nx ≤ 2000000) : MCall Tryz.prog 23 [.ptr 0 0] (stO nx L) (.d (nodes (varN nx))) (stO (nx + 1) L) := by
  refine mcall_of Tryz.func23 rfl Tryz.ntmps23 Tryz.results23 rfl rfl rfl ?_
  intro wb St0 X fx
  repeat' first
    | refine en_n ?_
    | refine awp_seq ?_
    | refine awp_region ?_
    | refine alex_nil ?_
    | refine w0 ?_
    | (apply Y_nilc_p; exact rfl)
    | (apply Y_call (hb := hb_variable) (hc := variable_ok _))
    | apply ay (hd := rfl)
    | (apply Y_assign_d; exact rfl)
    | (apply Y_add; exact rfl; exact rfl)
    | (apply Y_sub; exact rfl; exact rfl)
    | (apply Y_assign_nil; exact rfl)
    | (apply Y_move_ptr; exact rfl)
    | (apply Y_field_p; exact rfl; exact (by first | with_reducible exact fb_0 | with_reducible exact fb_1 | with_reducible exact fs_0 | with_reducible exact fs_1 | with_reducible exact fn_0 | with_reducible exact fn_1 | with_reducible exact fn_2 | with_reducible exact fn_3 | with_reducible exact fo_0 | with_reducible exact fo_1 | with_reducible exact fo_2 | with_reducible exact fo_3))
    | (apply Y_load_p; exact rfl; exact (by first | with_reducible exact tc_bind | with_reducible exact tc_m51 | with_reducible exact tc_m68 | with_reducible exact tc_pst | with_reducible exact tc_pf | with_reducible exact tcn_int | with_reducible exact tc_nodes | with_reducible exact tc_node | with_reducible exact tc_ints | with_reducible exact tcn_kind | with_reducible exact tcn_i64 | with_reducible exact tcn_str | with_reducible exact tcn_bool | with_reducible exact tc_str | with_reducible exact tc_int | with_reducible exact tc_kind | with_reducible exact tc_tok | with_reducible exact tc_u8s | with_reducible exact tc_toks | with_reducible exact tc_strs | with_reducible exact tc_bool | with_reducible exact tc_err | with_reducible exact tc_i64); exact rfl; exact rfl)
    | (refine w0' ?_)
    | (apply aStore; exact rfl; exact rfl; exact rfl; exact (by first | with_reducible exact tc_bind | with_reducible exact tc_m51 | with_reducible exact tc_m68 | with_reducible exact tc_pst | with_reducible exact tc_pf | with_reducible exact tcn_int | with_reducible exact tc_nodes | with_reducible exact tc_node | with_reducible exact tc_ints | with_reducible exact tcn_kind | with_reducible exact tcn_i64 | with_reducible exact tcn_str | with_reducible exact tcn_bool | with_reducible exact tc_str | with_reducible exact tc_int | with_reducible exact tc_kind | with_reducible exact tc_tok | with_reducible exact tc_u8s | with_reducible exact tc_toks | with_reducible exact tc_strs | with_reducible exact tc_bool | with_reducible exact tc_err | with_reducible exact tc_i64); exact rfl; exact rfl; exact rfl; exact rfl)
    | refine awp_ret ?_
    | exact CoL_nil
    | refine CoL_d rfl ?_
  · omega
  · omega
  · rw [show nx + 1 - 1 = nx by omega]
    exact mpost_ret (Fits_mk (Le_cons rfl Le_nil) (Pre_cons rfl rfl (Pre_cons rfl rfl Pre_nil)) rfl rfl)

theorem head_ok (nx : Int) (L : Sto) (n : Nat) (t r : List Nd) (h : headF n L t = some r) : QCall Tryz.prog 67 [.ptr 0 0, .d (nodes t)] (stO nx L) (nodes r) := by
  refine qcall_of Tryz.func67 rfl Tryz.ntmps67 Tryz.results67 rfl ?_
  intro wb St0
  repeat' first
    | refine en_n ?_
    | refine awp_seq ?_
    | refine awp_region ?_
    | refine alex_nil ?_
    | refine w0 ?_
    | apply ay (hd := rfl)
    | (apply Y_assign_nil; exact rfl)
    | refine awp_block ?_
  refine awp_loopF (α := Nat × List Nd) (fun p => headF p.1 L p.2 = some r) (fun p => [(0, .ptr 0 0), (1, .d (nodes p.2))]) (fun _ => stO nx L) (fun p => p.1) (n, t) h
    (Fits_mk (Le_cons rfl (Le_cons rfl Le_nil)) (Pre_cons rfl rfl (Pre_cons rfl rfl Pre_nil)) rfl rfl) ?_
  clear h
  rintro ⟨n, t⟩ h
  dsimp only at h ⊢
  obtain ⟨n, rfl⟩ : ∃ m, n = m + 1 := by cases n with | zero => cases h | succ m => exact ⟨m, rfl⟩
  cases hx : t[0]? with
  | none => simp [headF, hx] at h
  | some x =>
    have hlen : 0 < t.length := (List.getElem?_eq_some_iff.1 hx).1
    simp only [headF, hx] at h
    repeat' first
      | refine en_n ?_
      | refine awp_seq ?_
      | refine awp_region ?_
      | refine alex_nil ?_
      | refine w0 ?_
      | (apply Y_nilc_p; exact rfl)
      | (apply Y_lookOkI; exact rfl; exact rfl; exact rfl; (with_reducible exact mt_51); (with_reducible exact ut_int); (with_reducible exact z1_nodes))
      | (apply aJ (hd := rfl); (first | exact Co_dd rfl | exact Co_bb rfl rfl rfl | exact Co_nn rfl); exact rfl; exact (by first | with_reducible exact es_binds | with_reducible exact es_nodes | with_reducible exact es_ints | with_reducible exact es_nodess | with_reducible exact es_toks | with_reducible exact es_strs | with_reducible exact es_u8s); assumption; omega; exact fun _ => rfl)
      | apply ay (hd := rfl)
      | (apply Y_move_d; exact rfl)
      | (apply Y_assign_d; exact rfl)
      | (apply Y_field_r; exact rfl; exact (by first | with_reducible exact fb_0 | with_reducible exact fb_1 | with_reducible exact fs_0 | with_reducible exact fs_1 | with_reducible exact fn_0 | with_reducible exact fn_1 | with_reducible exact fn_2 | with_reducible exact fn_3 | with_reducible exact fo_0 | with_reducible exact fo_1 | with_reducible exact fo_2 | with_reducible exact fo_3))
      | (apply Y_load_r1; exact rfl; exact (by first | with_reducible exact tc_bind | with_reducible exact tc_m51 | with_reducible exact tc_m68 | with_reducible exact tc_pst | with_reducible exact tc_pf | with_reducible exact tcn_int | with_reducible exact tc_nodes | with_reducible exact tc_node | with_reducible exact tc_ints | with_reducible exact tcn_kind | with_reducible exact tcn_i64 | with_reducible exact tcn_str | with_reducible exact tcn_bool | with_reducible exact tc_str | with_reducible exact tc_int | with_reducible exact tc_kind | with_reducible exact tc_tok | with_reducible exact tc_u8s | with_reducible exact tc_toks | with_reducible exact tc_strs | with_reducible exact tc_bool | with_reducible exact tc_err | with_reducible exact tc_i64))
      | (apply Y_eql; exact rfl; exact rfl)
      | (apply Y_not; exact rfl)
      | (apply Y_extract; exact rfl; exact rfl)
      | (apply Y_move_ptr; exact rfl)
      | (apply Y_field_p; exact rfl; exact (by first | with_reducible exact fb_0 | with_reducible exact fb_1 | with_reducible exact fs_0 | with_reducible exact fs_1 | with_reducible exact fn_0 | with_reducible exact fn_1 | with_reducible exact fn_2 | with_reducible exact fn_3 | with_reducible exact fo_0 | with_reducible exact fo_1 | with_reducible exact fo_2 | with_reducible exact fo_3))
      | (apply Y_load_p; exact rfl; exact (by first | with_reducible exact tc_bind | with_reducible exact tc_m51 | with_reducible exact tc_m68 | with_reducible exact tc_pst | with_reducible exact tc_pf | with_reducible exact tcn_int | with_reducible exact tc_nodes | with_reducible exact tc_node | with_reducible exact tc_ints | with_reducible exact tcn_kind | with_reducible exact tcn_i64 | with_reducible exact tcn_str | with_reducible exact tcn_bool | with_reducible exact tc_str | with_reducible exact tc_int | with_reducible exact tc_kind | with_reducible exact tc_tok | with_reducible exact tc_u8s | with_reducible exact tc_toks | with_reducible exact tc_strs | with_reducible exact tc_bool | with_reducible exact tc_err | with_reducible exact tc_i64); exact rfl; exact rfl)
      | (apply awp_condD; exact rfl; (intro hb); rotate_left; (intro hb); rotate_right)
      | (apply awp_cond; exact rfl; (intro hb); rotate_left; (intro hb); rotate_right)
      | refine awp_block ?_
      | refine awp_skip ?_
      | refine awp_ret ?_
      | refine awp_exit ?_
      | refine awp_draw (by kernel_rfl) (by kernel_rfl) ?_
      | refine en_e ?_
      | refine eb_n ?_
      | refine eb_e ?_
      | refine eb_o rfl ?_
      | refine rpost_ret ?_
      | (apply res1; exact rfl)
    · simp only [lookK_enc, Option.isSome_map, Bool.not_eq_true', Option.isSome_eq_false_iff, Option.isNone_iff_eq_none] at hb
      have hk : x.kind = 31 := ‹_›
      rw [if_pos hk, hb] at h
      injection h with h; rw [h]
    · have hk : x.kind = 31 := ‹_›
      have hs := (look_sto L x.num).2
      rw [hs] at hb
      rw [if_pos hk] at h
      cases hq : lookA L x.num with
      | none => rw [hq] at hb; cases hb
      | some u =>
        rw [hq] at h
        exact ⟨(n, u), h, by omega, Fits_mk (Le_cons rfl (Le_d rfl (by rw [(look_sto L x.num).1, hq]; rfl) Le_nil)) (Pre_cons rfl rfl (Pre_cons rfl rfl Pre_nil)) rfl rfl⟩
    · rw [if_neg hb] at h; injection h with h; rw [h]

theorem catO_take {α : Type} {f : α → Option (List Nd)} : ∀ {L : List α} {r : List Nd}, catO f L = some r → ∀ i, ∃ a, catO f (L.take i) = some a ∧ a.length ≤ r.length
  | [], r, h, i => by simp only [catO, Option.some.injEq] at h; subst h; exact ⟨[], by simp [catO], Nat.le_refl _⟩
  | x :: L, r, h, 0 => ⟨[], by simp [catO], Nat.zero_le _⟩
  | x :: L, r, h, i + 1 => by
    simp only [catO] at h
    split at h
    · rename_i a b h1 h2
      injection h with h; subst h
      obtain ⟨c, h3, h4⟩ := catO_take h2 i
      exact ⟨a ++ c, by simp [catO, h1, h3], by simp; omega⟩
    · cases h
theorem catO_succ {α : Type} {f : α → Option (List Nd)} : ∀ {L : List α} {i : Nat} {v : α} {a c : List Nd}, L[i]? = some v → catO f (L.take i) = some a → catO f (L.take (i + 1)) = some c → ∃ b, f v = some b ∧ c = a ++ b
  | x :: L, 0, v, a, c, hv, ha, hc => by
    simp at hv; subst hv
    simp only [List.take_zero, catO, Option.some.injEq] at ha; subst ha
    simp only [Nat.zero_add, List.take_succ_cons, List.take_zero, catO] at hc
    split at hc
    · rename_i b d h1 h2; injection h2 with h2; subst h2; injection hc with hc; subst hc; exact ⟨b, h1, by simp⟩
    · cases hc
  | x :: L, i + 1, v, a, c, hv, ha, hc => by
    simp only [List.take_succ_cons, catO] at ha hc
    split at ha
    · rename_i p q h1 h2
      injection ha with ha; subst ha
      split at hc
      · rename_i p' q' h3 h4
        injection hc with hc; subst hc
        rw [h1] at h3; injection h3 with h3; subst h3
        obtain ⟨b, h5, h6⟩ := catO_succ (by simpa using hv) h2 h4
        exact ⟨b, h5, by rw [h6, List.append_assoc]⟩
      · cases hc
    · cases ha
  | [], _, _, _, _, hv, _, _ => by simp at hv

set_option maxHeartbeats 1000000 in
theorem whole_ok (nx : Int) (L : Sto) : ∀ (n : Nat) (t r : List Nd), resF n L t = some r → t.length ≤ 1000000 → r.length ≤ 1000000 → (∀ p ∈ L, p.2.length ≤ 1000000) → QCall Tryz.prog 48 [.ptr 0 0, .d (nodes t)] (stO nx L) (nodes r)
  | 0, _, _, h, _, _, _ => by cases h
  | n + 1, t, r, h, ht, hr, hL => by
    have ih := whole_ok nx L n
    refine qcall_of Tryz.func48 rfl Tryz.ntmps48 Tryz.results48 rfl ?_
    intro wb St0
    unfold resF at h
    generalize hf : (fun x : Nd => if x.kind = 31 then (match lookA L x.num with | some u => resF n L u | none => some [x]) else some [x]) = f at h
    have hf' : ∀ x : Nd, f x = if x.kind = 31 then (match lookA L x.num with | some u => resF n L u | none => some [x]) else some [x] := fun x => by rw [← hf]
    clear hf
    repeat' first
      | refine en_n ?_
      | refine awp_seq ?_
      | refine awp_region ?_
      | refine alex_nil ?_
      | refine w0 ?_
      | apply ay (hd := rfl)
      | (apply Y_move_d; exact rfl)
      | (apply Y_len_m; exact rfl; exact (by first | with_reducible exact et_binds | with_reducible exact et_nodes | with_reducible exact et_ints | with_reducible exact et_nodess | with_reducible exact et_toks | with_reducible exact et_strs | with_reducible exact et_u8s))
      | (apply Y_assign_nil; exact rfl)
      | refine awp_block ?_
    refine awp_newbuf 5 false 41 4 rfl rfl ?_
    refine awp_loopF (α := Nat × List Nd) (fun p => p.1 ≤ t.length ∧ catO f (t.take p.1) = some p.2) (fun p => [(0, .ptr 0 0), (5, .buf 2 (p.2.map Nd.av).length), (10, .d (nodes t)), (11, .d (i64 (t.length : Int))), (12, .d (i64 (p.1 : Int)))]) (fun p => stO nx L ++ [.buf false 41 4 (p.2.map Nd.av)]) (fun p => t.length - p.1) (0, []) ⟨Nat.zero_le _, by simp [catO]⟩
      (Fits_mk (Le_cons rfl (Le_buf rfl rfl (Le_cons rfl (Le_d rfl rfl (Le_cons rfl Le_nil))))) (Pre_cons rfl rfl (Pre_cons rfl rfl (Pre_buf rfl rfl rfl Pre_nil))) rfl rfl) ?_
    rintro ⟨i, a⟩ ⟨hi, ha⟩
    dsimp only at hi ha ⊢
    obtain ⟨a', ha', hal⟩ := catO_take h i
    rw [ha] at ha'; injection ha' with ha'; subst ha'
    rcases Nat.lt_or_ge i t.length with hlt | hge
    · have hx : t[i]? = some t[i] := List.getElem?_eq_getElem hlt
      generalize t[i] = x at hx
      obtain ⟨a2, ha2, hal2⟩ := catO_take h (i + 1)
      obtain ⟨b, hb1, hb2⟩ := catO_succ hx ha ha2
      rw [hf'] at hb1
      have hal3 : (a ++ b).length ≤ 1000000 := by rw [← hb2]; omega
      rw [List.length_append] at hal3
      have fin : ∀ {Q : Nat × List Nd → Prop}, Q (i + 1, a2) → ∃ y : Nat × List Nd, (y.1 ≤ t.length ∧ catO f (t.take y.1) = some y.2) ∧ t.length - y.1 < t.length - i ∧ Q y := fun hQ => ⟨(i + 1, a2), ⟨hlt, ha2⟩, by show t.length - (i + 1) < _; omega, hQ⟩
      by_cases hk : x.kind = 31
      · rw [if_pos hk] at hb1
        cases hq : lookA L x.num with
        | none =>
          rw [hq] at hb1; injection hb1 with hb1; subst hb1
          repeat' first
            | refine en_n ?_
            | refine awp_seq ?_
            | refine awp_region ?_
            | refine alex_nil ?_
            | refine w0 ?_
            | (apply aApp (id := 2) (hd := rfl) (hro := rfl); exact rfl; exact rfl; (first | exact Co_dd rfl | exact Co_bb rfl rfl rfl | exact Co_nn rfl); (first | exact rfl | exact (by simp)); exact rfl; exact (by first | with_reducible exact ety_binds | with_reducible exact ety_nodes | with_reducible exact ety_ints | with_reducible exact ety_nodess | with_reducible exact ety_toks | with_reducible exact ety_strs | with_reducible exact ety_u8s); exact (by first | with_reducible exact es_binds | with_reducible exact es_nodes | with_reducible exact es_ints | with_reducible exact es_nodess | with_reducible exact es_toks | with_reducible exact es_strs | with_reducible exact es_u8s); exact (by first | with_reducible exact zl_bind | with_reducible exact zl_node | with_reducible exact zl_int | with_reducible exact zl_nodes | with_reducible exact zl_tok | with_reducible exact zl_str | with_reducible exact zl_i64 | with_reducible exact zl_u8); exact (by first | with_reducible exact by_binds | with_reducible exact by_nodes | with_reducible exact by_ints | with_reducible exact by_nodess | with_reducible exact by_toks | with_reducible exact by_strs | with_reducible exact by_u8s); (first | exact sz_map (fun _ => rfl) | exact sz_lit rfl))
            | (apply Y_lssT; exact rfl; exact rfl; first | assumption | omega)
            | (apply Y_eqlT; exact rfl; exact rfl; first | assumption | omega)
            | (apply Y_nilc_p; exact rfl)
            | (apply Y_lookOkIv; exact sto_none hq; exact rfl; exact rfl; exact rfl; (with_reducible exact mt_51); (with_reducible exact ut_int); (with_reducible exact z1_nodes))
            | (apply aJ (hd := rfl); (first | exact Co_dd rfl | exact Co_bb rfl rfl rfl | exact Co_nn rfl); exact rfl; exact (by first | with_reducible exact es_binds | with_reducible exact es_nodes | with_reducible exact es_ints | with_reducible exact es_nodess | with_reducible exact es_toks | with_reducible exact es_strs | with_reducible exact es_u8s); assumption; omega; exact fun _ => rfl)
            | (apply aAlloc (hd := rfl) (hro := rfl); exact (by first | with_reducible exact zo_m68 | with_reducible exact zo_f24 | with_reducible exact zo_node | with_reducible exact zon_int | with_reducible exact zo_tok | with_reducible exact zo_int | with_reducible exact zo_i64))
            | apply ay (hd := rfl)
            | (apply Y_move_d; exact rfl)
            | (apply Y_assign_d; exact rfl)
            | (apply Y_load_r; exact rfl; exact (by first | with_reducible exact tc_bind | with_reducible exact tc_m51 | with_reducible exact tc_m68 | with_reducible exact tc_pst | with_reducible exact tc_pf | with_reducible exact tcn_int | with_reducible exact tc_nodes | with_reducible exact tc_node | with_reducible exact tc_ints | with_reducible exact tcn_kind | with_reducible exact tcn_i64 | with_reducible exact tcn_str | with_reducible exact tcn_bool | with_reducible exact tc_str | with_reducible exact tc_int | with_reducible exact tc_kind | with_reducible exact tc_tok | with_reducible exact tc_u8s | with_reducible exact tc_toks | with_reducible exact tc_strs | with_reducible exact tc_bool | with_reducible exact tc_err | with_reducible exact tc_i64); exact rfl)
            | (apply Y_add; exact rfl; exact rfl)
            | (apply Y_pick_t; exact rfl; exact rfl)
            | (apply Y_extract; exact rfl; exact rfl)
            | (apply Y_move_buf; exact rfl)
            | (apply Y_assign_buf; exact rfl)
            | (apply Y_move_ptr; exact rfl)
            | (apply Y_field_p; exact rfl; exact (by first | with_reducible exact fb_0 | with_reducible exact fb_1 | with_reducible exact fs_0 | with_reducible exact fs_1 | with_reducible exact fn_0 | with_reducible exact fn_1 | with_reducible exact fn_2 | with_reducible exact fn_3 | with_reducible exact fo_0 | with_reducible exact fo_1 | with_reducible exact fo_2 | with_reducible exact fo_3))
            | (apply Y_load_p; exact rfl; exact (by first | with_reducible exact tc_bind | with_reducible exact tc_m51 | with_reducible exact tc_m68 | with_reducible exact tc_pst | with_reducible exact tc_pf | with_reducible exact tcn_int | with_reducible exact tc_nodes | with_reducible exact tc_node | with_reducible exact tc_ints | with_reducible exact tcn_kind | with_reducible exact tcn_i64 | with_reducible exact tcn_str | with_reducible exact tcn_bool | with_reducible exact tc_str | with_reducible exact tc_int | with_reducible exact tc_kind | with_reducible exact tc_tok | with_reducible exact tc_u8s | with_reducible exact tc_toks | with_reducible exact tc_strs | with_reducible exact tc_bool | with_reducible exact tc_err | with_reducible exact tc_i64); exact rfl; exact rfl)
            | (apply Y_load_pa; exact rfl; exact (by first | with_reducible exact tc_bind | with_reducible exact tc_m51 | with_reducible exact tc_m68 | with_reducible exact tc_pst | with_reducible exact tc_pf | with_reducible exact tcn_int | with_reducible exact tc_nodes | with_reducible exact tc_node | with_reducible exact tc_ints | with_reducible exact tcn_kind | with_reducible exact tcn_i64 | with_reducible exact tcn_str | with_reducible exact tcn_bool | with_reducible exact tc_str | with_reducible exact tc_int | with_reducible exact tc_kind | with_reducible exact tc_tok | with_reducible exact tc_u8s | with_reducible exact tc_toks | with_reducible exact tc_strs | with_reducible exact tc_bool | with_reducible exact tc_err | with_reducible exact tc_i64); exact rfl; exact rfl; exact rfl)
            | (apply Y_lit1; exact (by first | with_reducible exact ety_binds | with_reducible exact ety_nodes | with_reducible exact ety_ints | with_reducible exact ety_nodess | with_reducible exact ety_toks | with_reducible exact ety_strs | with_reducible exact ety_u8s); exact (by first | with_reducible exact es_binds | with_reducible exact es_nodes | with_reducible exact es_ints | with_reducible exact es_nodess | with_reducible exact es_toks | with_reducible exact es_strs | with_reducible exact es_u8s); exact (by first | with_reducible exact zs_bind | with_reducible exact zs_node | with_reducible exact zs_int | with_reducible exact zs_nodes | with_reducible exact zs_tok | with_reducible exact zs_str | with_reducible exact zs_i64 | with_reducible exact zs_u8); exact rfl; exact rfl; (first | exact CoL_d rfl CoL_nil | exact CoL_b rfl rfl rfl CoL_nil | exact CoL_n rfl CoL_nil); exact rfl)
            | (apply w1; exact rfl; exact rfl)
            | (refine w0' ?_)
            | (apply aStore; exact rfl; exact rfl; exact rfl; exact (by first | with_reducible exact tc_bind | with_reducible exact tc_m51 | with_reducible exact tc_m68 | with_reducible exact tc_pst | with_reducible exact tc_pf | with_reducible exact tcn_int | with_reducible exact tc_nodes | with_reducible exact tc_node | with_reducible exact tc_ints | with_reducible exact tcn_kind | with_reducible exact tcn_i64 | with_reducible exact tcn_str | with_reducible exact tcn_bool | with_reducible exact tc_str | with_reducible exact tc_int | with_reducible exact tc_kind | with_reducible exact tc_tok | with_reducible exact tc_u8s | with_reducible exact tc_toks | with_reducible exact tc_strs | with_reducible exact tc_bool | with_reducible exact tc_err | with_reducible exact tc_i64); exact rfl; exact rfl; exact rfl; exact rfl)
            | (apply awp_condT; exact rfl)
            | (apply awp_condF; exact rfl)
            | refine awp_block ?_
            | refine awp_skip ?_
            | refine awp_draw (by kernel_rfl) (by kernel_rfl) ?_
            | refine eb_n ?_
          · simp only [List.length_map, List.length_singleton]; omega
          · omega
          · refine fin ?_
            subst hb2
            exact Fits_mk (Le_cons rfl (Le_buf rfl (by simp) (Le_cons rfl (Le_cons rfl (Le_cons rfl Le_nil))))) (Pre_cons rfl rfl (Pre_cons rfl rfl (Pre_buf rfl rfl (by rw [List.map_append]; rfl) Pre_nil))) rfl rfl
        | some u =>
          rw [hq] at hb1
          have hu : u.length ≤ 1000000 := hL _ (lookA_mem hq)
          have hc := ih u b hb1 hu (by omega) hL
          repeat' first
            | refine en_n ?_
            | refine awp_seq ?_
            | refine awp_region ?_
            | refine alex_nil ?_
            | refine w0 ?_
            | (apply aApp (id := 2) (hd := rfl) (hro := rfl); exact rfl; exact rfl; (first | exact Co_dd rfl | exact Co_bb rfl rfl rfl | exact Co_nn rfl); (first | exact rfl | exact (by simp)); exact rfl; exact (by first | with_reducible exact ety_binds | with_reducible exact ety_nodes | with_reducible exact ety_ints | with_reducible exact ety_nodess | with_reducible exact ety_toks | with_reducible exact ety_strs | with_reducible exact ety_u8s); exact (by first | with_reducible exact es_binds | with_reducible exact es_nodes | with_reducible exact es_ints | with_reducible exact es_nodess | with_reducible exact es_toks | with_reducible exact es_strs | with_reducible exact es_u8s); exact (by first | with_reducible exact zl_bind | with_reducible exact zl_node | with_reducible exact zl_int | with_reducible exact zl_nodes | with_reducible exact zl_tok | with_reducible exact zl_str | with_reducible exact zl_i64 | with_reducible exact zl_u8); exact (by first | with_reducible exact by_binds | with_reducible exact by_nodes | with_reducible exact by_ints | with_reducible exact by_nodess | with_reducible exact by_toks | with_reducible exact by_strs | with_reducible exact by_u8s); (first | exact sz_map (fun _ => rfl) | exact sz_lit rfl))
            | (apply Y_lssT; exact rfl; exact rfl; first | assumption | omega)
            | (apply Y_eqlT; exact rfl; exact rfl; first | assumption | omega)
            | (apply Y_nilc_p; exact rfl)
            | (apply Y_lookOkIv; exact sto_some hq; exact rfl; exact rfl; exact rfl; (with_reducible exact mt_51); (with_reducible exact ut_int); (with_reducible exact z1_nodes))
            | (refine Y_qcall [0, 1] [] rfl rfl hb_whole (hc) rfl ?_ rfl (by decide) rfl rfl rfl rfl; (repeat (refine SArgs_cons rfl ?_)); exact SArgs_nil)
            | (apply aJ (hd := rfl); (first | exact Co_dd rfl | exact Co_bb rfl rfl rfl | exact Co_nn rfl); exact rfl; exact (by first | with_reducible exact es_binds | with_reducible exact es_nodes | with_reducible exact es_ints | with_reducible exact es_nodess | with_reducible exact es_toks | with_reducible exact es_strs | with_reducible exact es_u8s); assumption; omega; exact fun _ => rfl)
            | (apply aAlloc (hd := rfl) (hro := rfl); exact (by first | with_reducible exact zo_m68 | with_reducible exact zo_f24 | with_reducible exact zo_node | with_reducible exact zon_int | with_reducible exact zo_tok | with_reducible exact zo_int | with_reducible exact zo_i64))
            | apply ay (hd := rfl)
            | (apply Y_move_d; exact rfl)
            | (apply Y_assign_d; exact rfl)
            | (apply Y_load_r; exact rfl; exact (by first | with_reducible exact tc_bind | with_reducible exact tc_m51 | with_reducible exact tc_m68 | with_reducible exact tc_pst | with_reducible exact tc_pf | with_reducible exact tcn_int | with_reducible exact tc_nodes | with_reducible exact tc_node | with_reducible exact tc_ints | with_reducible exact tcn_kind | with_reducible exact tcn_i64 | with_reducible exact tcn_str | with_reducible exact tcn_bool | with_reducible exact tc_str | with_reducible exact tc_int | with_reducible exact tc_kind | with_reducible exact tc_tok | with_reducible exact tc_u8s | with_reducible exact tc_toks | with_reducible exact tc_strs | with_reducible exact tc_bool | with_reducible exact tc_err | with_reducible exact tc_i64); exact rfl)
            | (apply Y_add; exact rfl; exact rfl)
            | (apply Y_pick_t; exact rfl; exact rfl)
            | (apply Y_extract; exact rfl; exact rfl)
            | (apply Y_move_buf; exact rfl)
            | (apply Y_assign_buf; exact rfl)
            | (apply Y_move_ptr; exact rfl)
            | (apply Y_field_p; exact rfl; exact (by first | with_reducible exact fb_0 | with_reducible exact fb_1 | with_reducible exact fs_0 | with_reducible exact fs_1 | with_reducible exact fn_0 | with_reducible exact fn_1 | with_reducible exact fn_2 | with_reducible exact fn_3 | with_reducible exact fo_0 | with_reducible exact fo_1 | with_reducible exact fo_2 | with_reducible exact fo_3))
            | (apply Y_load_p; exact rfl; exact (by first | with_reducible exact tc_bind | with_reducible exact tc_m51 | with_reducible exact tc_m68 | with_reducible exact tc_pst | with_reducible exact tc_pf | with_reducible exact tcn_int | with_reducible exact tc_nodes | with_reducible exact tc_node | with_reducible exact tc_ints | with_reducible exact tcn_kind | with_reducible exact tcn_i64 | with_reducible exact tcn_str | with_reducible exact tcn_bool | with_reducible exact tc_str | with_reducible exact tc_int | with_reducible exact tc_kind | with_reducible exact tc_tok | with_reducible exact tc_u8s | with_reducible exact tc_toks | with_reducible exact tc_strs | with_reducible exact tc_bool | with_reducible exact tc_err | with_reducible exact tc_i64); exact rfl; exact rfl)
            | (apply w1; exact rfl; exact rfl)
            | (refine w0' ?_)
            | (apply aStore; exact rfl; exact rfl; exact rfl; exact (by first | with_reducible exact tc_bind | with_reducible exact tc_m51 | with_reducible exact tc_m68 | with_reducible exact tc_pst | with_reducible exact tc_pf | with_reducible exact tcn_int | with_reducible exact tc_nodes | with_reducible exact tc_node | with_reducible exact tc_ints | with_reducible exact tcn_kind | with_reducible exact tcn_i64 | with_reducible exact tcn_str | with_reducible exact tcn_bool | with_reducible exact tc_str | with_reducible exact tc_int | with_reducible exact tc_kind | with_reducible exact tc_tok | with_reducible exact tc_u8s | with_reducible exact tc_toks | with_reducible exact tc_strs | with_reducible exact tc_bool | with_reducible exact tc_err | with_reducible exact tc_i64); exact rfl; exact rfl; exact rfl; exact rfl)
            | (apply awp_condT; exact rfl)
            | refine awp_block ?_
            | refine awp_skip ?_
            | refine awp_draw (by kernel_rfl) (by kernel_rfl) ?_
            | refine eb_n ?_
          · simp only [List.length_map]; omega
          · omega
          · refine fin ?_
            subst hb2
            exact Fits_mk (Le_cons rfl (Le_buf rfl (by simp) (Le_cons rfl (Le_cons rfl (Le_cons rfl Le_nil))))) (Pre_cons rfl rfl (Pre_cons rfl rfl (Pre_buf rfl rfl (by rw [List.map_append]) Pre_nil))) rfl rfl
      · rw [if_neg hk] at hb1; injection hb1 with hb1; subst hb1
        repeat' first
          | refine en_n ?_
          | refine awp_seq ?_
          | refine awp_region ?_
          | refine alex_nil ?_
          | refine w0 ?_
          | (apply aApp (id := 2) (hd := rfl) (hro := rfl); exact rfl; exact rfl; (first | exact Co_dd rfl | exact Co_bb rfl rfl rfl | exact Co_nn rfl); (first | exact rfl | exact (by simp)); exact rfl; exact (by first | with_reducible exact ety_binds | with_reducible exact ety_nodes | with_reducible exact ety_ints | with_reducible exact ety_nodess | with_reducible exact ety_toks | with_reducible exact ety_strs | with_reducible exact ety_u8s); exact (by first | with_reducible exact es_binds | with_reducible exact es_nodes | with_reducible exact es_ints | with_reducible exact es_nodess | with_reducible exact es_toks | with_reducible exact es_strs | with_reducible exact es_u8s); exact (by first | with_reducible exact zl_bind | with_reducible exact zl_node | with_reducible exact zl_int | with_reducible exact zl_nodes | with_reducible exact zl_tok | with_reducible exact zl_str | with_reducible exact zl_i64 | with_reducible exact zl_u8); exact (by first | with_reducible exact by_binds | with_reducible exact by_nodes | with_reducible exact by_ints | with_reducible exact by_nodess | with_reducible exact by_toks | with_reducible exact by_strs | with_reducible exact by_u8s); (first | exact sz_map (fun _ => rfl) | exact sz_lit rfl))
          | (apply Y_lssT; exact rfl; exact rfl; first | assumption | omega)
          | (apply Y_eqlF; exact rfl; exact rfl; first | assumption | omega)
          | (apply Y_nilc_p; exact rfl)
          | (apply Y_lookOkIv; exact ⟨rfl, rfl⟩; exact rfl; exact rfl; exact rfl; (with_reducible exact mt_51); (with_reducible exact ut_int); (with_reducible exact z1_nodes))
          | (apply aJ (hd := rfl); (first | exact Co_dd rfl | exact Co_bb rfl rfl rfl | exact Co_nn rfl); exact rfl; exact (by first | with_reducible exact es_binds | with_reducible exact es_nodes | with_reducible exact es_ints | with_reducible exact es_nodess | with_reducible exact es_toks | with_reducible exact es_strs | with_reducible exact es_u8s); assumption; omega; exact fun _ => rfl)
          | (apply aAlloc (hd := rfl) (hro := rfl); exact (by first | with_reducible exact zo_m68 | with_reducible exact zo_f24 | with_reducible exact zo_node | with_reducible exact zon_int | with_reducible exact zo_tok | with_reducible exact zo_int | with_reducible exact zo_i64))
          | apply ay (hd := rfl)
          | (apply Y_move_d; exact rfl)
          | (apply Y_assign_d; exact rfl)
          | (apply Y_load_r; exact rfl; exact (by first | with_reducible exact tc_bind | with_reducible exact tc_m51 | with_reducible exact tc_m68 | with_reducible exact tc_pst | with_reducible exact tc_pf | with_reducible exact tcn_int | with_reducible exact tc_nodes | with_reducible exact tc_node | with_reducible exact tc_ints | with_reducible exact tcn_kind | with_reducible exact tcn_i64 | with_reducible exact tcn_str | with_reducible exact tcn_bool | with_reducible exact tc_str | with_reducible exact tc_int | with_reducible exact tc_kind | with_reducible exact tc_tok | with_reducible exact tc_u8s | with_reducible exact tc_toks | with_reducible exact tc_strs | with_reducible exact tc_bool | with_reducible exact tc_err | with_reducible exact tc_i64); exact rfl)
          | (apply Y_add; exact rfl; exact rfl)
          | (apply Y_pick_f; exact rfl; exact rfl)
          | (apply Y_extract; exact rfl; exact rfl)
          | (apply Y_move_buf; exact rfl)
          | (apply Y_assign_buf; exact rfl)
          | (apply Y_move_ptr; exact rfl)
          | (apply Y_field_p; exact rfl; exact (by first | with_reducible exact fb_0 | with_reducible exact fb_1 | with_reducible exact fs_0 | with_reducible exact fs_1 | with_reducible exact fn_0 | with_reducible exact fn_1 | with_reducible exact fn_2 | with_reducible exact fn_3 | with_reducible exact fo_0 | with_reducible exact fo_1 | with_reducible exact fo_2 | with_reducible exact fo_3))
          | (apply Y_load_p; exact rfl; exact (by first | with_reducible exact tc_bind | with_reducible exact tc_m51 | with_reducible exact tc_m68 | with_reducible exact tc_pst | with_reducible exact tc_pf | with_reducible exact tcn_int | with_reducible exact tc_nodes | with_reducible exact tc_node | with_reducible exact tc_ints | with_reducible exact tcn_kind | with_reducible exact tcn_i64 | with_reducible exact tcn_str | with_reducible exact tcn_bool | with_reducible exact tc_str | with_reducible exact tc_int | with_reducible exact tc_kind | with_reducible exact tc_tok | with_reducible exact tc_u8s | with_reducible exact tc_toks | with_reducible exact tc_strs | with_reducible exact tc_bool | with_reducible exact tc_err | with_reducible exact tc_i64); exact rfl; exact rfl)
          | (apply Y_load_pa; exact rfl; exact (by first | with_reducible exact tc_bind | with_reducible exact tc_m51 | with_reducible exact tc_m68 | with_reducible exact tc_pst | with_reducible exact tc_pf | with_reducible exact tcn_int | with_reducible exact tc_nodes | with_reducible exact tc_node | with_reducible exact tc_ints | with_reducible exact tcn_kind | with_reducible exact tcn_i64 | with_reducible exact tcn_str | with_reducible exact tcn_bool | with_reducible exact tc_str | with_reducible exact tc_int | with_reducible exact tc_kind | with_reducible exact tc_tok | with_reducible exact tc_u8s | with_reducible exact tc_toks | with_reducible exact tc_strs | with_reducible exact tc_bool | with_reducible exact tc_err | with_reducible exact tc_i64); exact rfl; exact rfl; exact rfl)
          | (apply Y_lit1; exact (by first | with_reducible exact ety_binds | with_reducible exact ety_nodes | with_reducible exact ety_ints | with_reducible exact ety_nodess | with_reducible exact ety_toks | with_reducible exact ety_strs | with_reducible exact ety_u8s); exact (by first | with_reducible exact es_binds | with_reducible exact es_nodes | with_reducible exact es_ints | with_reducible exact es_nodess | with_reducible exact es_toks | with_reducible exact es_strs | with_reducible exact es_u8s); exact (by first | with_reducible exact zs_bind | with_reducible exact zs_node | with_reducible exact zs_int | with_reducible exact zs_nodes | with_reducible exact zs_tok | with_reducible exact zs_str | with_reducible exact zs_i64 | with_reducible exact zs_u8); exact rfl; exact rfl; (first | exact CoL_d rfl CoL_nil | exact CoL_b rfl rfl rfl CoL_nil | exact CoL_n rfl CoL_nil); exact rfl)
          | (apply k1 (hd := rfl); exact rfl; exact rfl)
          | (refine w0' ?_)
          | (apply aStore; exact rfl; exact rfl; exact rfl; exact (by first | with_reducible exact tc_bind | with_reducible exact tc_m51 | with_reducible exact tc_m68 | with_reducible exact tc_pst | with_reducible exact tc_pf | with_reducible exact tcn_int | with_reducible exact tc_nodes | with_reducible exact tc_node | with_reducible exact tc_ints | with_reducible exact tcn_kind | with_reducible exact tcn_i64 | with_reducible exact tcn_str | with_reducible exact tcn_bool | with_reducible exact tc_str | with_reducible exact tc_int | with_reducible exact tc_kind | with_reducible exact tc_tok | with_reducible exact tc_u8s | with_reducible exact tc_toks | with_reducible exact tc_strs | with_reducible exact tc_bool | with_reducible exact tc_err | with_reducible exact tc_i64); exact rfl; exact rfl; exact rfl; exact rfl)
          | (apply awp_condT; exact rfl)
          | (apply awp_condF; exact rfl)
          | refine awp_block ?_
          | refine awp_skip ?_
          | refine awp_draw (by kernel_rfl) (by kernel_rfl) ?_
          | refine eb_n ?_
        · simp only [List.length_map, List.length_singleton]; omega
        · omega
        · refine fin ?_
          subst hb2
          exact Fits_mk (Le_cons rfl (Le_buf rfl (by simp) (Le_cons rfl (Le_cons rfl (Le_cons rfl Le_nil))))) (Pre_cons rfl rfl (Pre_cons rfl rfl (Pre_buf rfl rfl (by rw [List.map_append]; rfl) Pre_nil))) rfl rfl
    · have e : a = r := by rw [List.take_of_length_le hge, h] at ha; injection ha with ha; exact ha.symm
      subst e
      repeat' first
        | refine en_n ?_
        | refine awp_seq ?_
        | refine awp_region ?_
        | refine alex_nil ?_
        | refine w0 ?_
        | (apply Y_lssF; exact rfl; exact rfl; first | assumption | omega)
        | apply ay (hd := rfl)
        | (apply Y_move_buf; exact rfl)
        | (apply Y_assign_buf; exact rfl)
        | (apply awp_condF; exact rfl)
        | refine awp_ret ?_
        | refine awp_exit ?_
        | refine en_e ?_
        | refine eb_e ?_
        | refine rpost_ret ?_
        | (apply res1b; exact rfl; exact rfl; (first | exact rfl | (simp; done)))
      rfl
end Go.Proofs.YtamhkcnpocdfcaaGreatDoor
/- The statements on types: the walk of size. -/
namespace Go.Proofs.YtamhkcnpocdfcaaGreatDoor
open Go.Sx

theorem foldO_snoc {α β : Type} {f : β → α → Option β} : ∀ {L : List α} {i : Nat} {v : α} {b c : β}, L[i]? = some v → foldO f b (L.take i) = some c → foldO f b (L.take (i + 1)) = f c v
  | x :: L, 0, v, b, c, hv, hc => by
    simp at hv; subst hv
    simp only [List.take_zero, foldO, Option.some.injEq] at hc; subst hc
    simp only [Nat.zero_add, List.take_succ_cons, List.take_zero, foldO]
    cases f b x <;> rfl
  | x :: L, i + 1, v, b, c, hv, hc => by
    simp only [List.take_succ_cons, foldO] at hc ⊢
    cases h : f b x with
    | none => rw [h] at hc; cases hc
    | some d => rw [h] at hc; exact foldO_snoc (by simpa using hv) hc
  | [], _, _, _, _, hv, _ => by simp at hv
/-- a fold that comes to its end passes each step -/
theorem foldO_take {α β : Type} {f : β → α → Option β} : ∀ {L : List α} {b r : β}, foldO f b L = some r → ∀ i, ∃ c, foldO f b (L.take i) = some c
  | [], b, r, h, i => ⟨b, by simp [foldO]⟩
  | x :: L, b, r, h, 0 => ⟨b, by simp [foldO]⟩
  | x :: L, b, r, h, i + 1 => by
    simp only [foldO, List.take_succ_cons] at h ⊢
    cases hf : f b x with
    | none => rw [hf] at h; cases h
    | some d => rw [hf] at h; exact foldO_take h i
theorem foldO_inv {α β : Type} {f : β → α → Option β} {J : β → Prop} (hs : ∀ b x c, J b → f b x = some c → J c) : ∀ {L : List α} {b r : β}, J b → foldO f b L = some r → J r
  | [], b, r, hb, h => by simp only [foldO, Option.some.injEq] at h; subst h; exact hb
  | x :: L, b, r, hb, h => by
    simp only [foldO] at h
    cases hf : f b x with
    | none => rw [hf] at h; cases h
    | some d => rw [hf] at h; exact foldO_inv hs (hs b x d hb hf) h

def SeenB (S : Seen) : Prop := ∀ a v, lookA S a = some v → 0 ≤ v ∧ v ≤ 4001
theorem lookA_put {β : Type} : ∀ (L : List (Int × β)) (a b : Int) (d : β), lookA (putA L a d) b = if a = b then some d else lookA L b
  | [], a, b, d => by simp [putA, lookA]
  | (k, x) :: r, a, b, d => by
    have ih := lookA_put r a b d
    unfold putA
    by_cases h : k = a
    · subst h
      rw [if_pos rfl]
      unfold lookA
      split <;> rfl
    · rw [if_neg h]
      simp only [lookA]
      by_cases hb : k = b
      · subst hb
        rw [if_pos rfl, if_pos rfl, if_neg (fun e => h e.symm)]
      · rw [if_neg hb, if_neg hb, ih]
theorem SeenB.put {S : Seen} (h : SeenB S) {a v : Int} (hv : 0 ≤ v ∧ v ≤ 4001) : SeenB (putA S a v) := fun b w hb => by
  rw [lookA_put] at hb
  split at hb
  · injection hb with hb; subst hb; exact hv
  · exact h b w hb
theorem SeenB.get {S : Seen} (h : SeenB S) (a : Int) : 0 ≤ (lookA S a).getD 0 ∧ (lookA S a).getD 0 ≤ 4001 := by
  cases hq : lookA S a with
  | none => simp
  | some v => simpa [hq] using h a v hq
/-- one step of size -/
def szS (n : Nat) (L : Sto) (p : Int × Seen) (x : Nd) : Option (Int × Seen) :=
  if x.kind = 31 then (match lookA L x.num with
    | some u => if (lookA p.2 x.num).getD 0 > 0 then some (min (p.1 + (lookA p.2 x.num).getD 0) 4001, p.2) else (match sizeF n L u p.2 with
      | some (m, S') => some (min (p.1 + m) 4001, putA S' x.num m)
      | none => none)
    | none => some (min (p.1 + 1) 4001, p.2))
  else some (min (p.1 + 1) 4001, p.2)
theorem sizeF_succ (n : Nat) (L : Sto) (t : List Nd) (S : Seen) : sizeF (n + 1) L t S = foldO (szS n L) (0, S) t := rfl
theorem sizeF_bd (L : Sto) : ∀ (n : Nat) (t : List Nd) (S : Seen) (m : Int) (S' : Seen), SeenB S → sizeF n L t S = some (m, S') → (0 ≤ m ∧ m ≤ 4001) ∧ SeenB S'
  | 0, _, _, _, _, _, h => by cases h
  | n + 1, t, S, m, S', hS, h => by
    have ih := sizeF_bd L n
    rw [sizeF_succ] at h
    refine foldO_inv (J := fun p : Int × Seen => (0 ≤ p.1 ∧ p.1 ≤ 4001) ∧ SeenB p.2) (fun p x c hp hc => ?_) ⟨⟨by simp, by simp⟩, hS⟩ h
    obtain ⟨hp1, hp2⟩ := hp
    unfold szS at hc
    have hg := hp2.get x.num
    split at hc
    · split at hc
      · split at hc
        · injection hc with hc; subst hc; exact ⟨by simp only; omega, hp2⟩
        · split at hc
          · rename_i m' S1 hs
            injection hc with hc; subst hc
            obtain ⟨h1, h2⟩ := ih _ _ _ _ hp2 hs
            exact ⟨by simp only; omega, h2.put h1⟩
          · cases hc
      · injection hc with hc; subst hc; exact ⟨by simp only; omega, hp2⟩
    · injection hc with hc; subst hc; exact ⟨by simp only; omega, hp2⟩

attribute [local irreducible] hasBody Program.underlying Ylds astep alex alexE alexD awp PCall FCall RCall MCall QCall athen ablock ajump rpost fpost mpost rpostC
abbrev sizO (nx : Int) (L : Sto) (S : Seen) : List Ob := stO nx L ++ [.map none (mSeen S)]

set_option maxHeartbeats 4000000 in
theorem size_ok (nx : Int) (L : Sto) (hL : ∀ p ∈ L, p.2.length ≤ 1000000) : ∀ (n : Nat) (t : List Nd) (S : Seen) (m : Int) (S' : Seen), SeenB S → t.length ≤ 1000000 → sizeF n L t S = some (m, S') →
    MCall Tryz.prog 47 [.ptr 0 0, .d (nodes t), .mp 2] (sizO nx L S) (.d (i64 m)) (sizO nx L S')
  | 0, _, _, _, _, _, _, h => by cases h
  | n + 1, t, S, m, S', hS, ht, h => by
    have ih := size_ok nx L hL n
    rw [sizeF_succ] at h
    refine mcall_of Tryz.func47 rfl Tryz.ntmps47 Tryz.results47 rfl rfl rfl ?_
    intro wb St0 X fx
    repeat' first
      | refine en_n ?_
      | refine awp_seq ?_
      | refine awp_region ?_
      | refine alex_nil ?_
      | refine w0 ?_
      | apply ay (hd := rfl)
      | (apply Y_move_d; exact rfl)
      | (apply Y_assign_d; exact rfl)
      | (apply Y_len_m; exact rfl; exact (by first | with_reducible exact et_binds | with_reducible exact et_nodes | with_reducible exact et_ints | with_reducible exact et_nodess | with_reducible exact et_toks | with_reducible exact et_strs | with_reducible exact et_u8s))
      | refine awp_block ?_
    refine awp_loopF (α := Nat × (Int × Seen)) (fun p => p.1 ≤ t.length ∧ foldO (szS n L) (0, S) (t.take p.1) = some p.2 ∧ (0 ≤ p.2.1 ∧ p.2.1 ≤ 4001) ∧ SeenB p.2.2) (fun p => [(0, .ptr 0 0), (2, .mp 2), (7, .d (i64 p.2.1)), (12, .d (nodes t)), (13, .d (i64 (t.length : Int))), (14, .d (i64 (p.1 : Int)))])
      (fun p => [.bx (fx 0) none [.d (i64 nx), .mp 1], .map (fx 1) (mSto L), .map (fx 2) (mSeen p.2.2)]) (fun p => t.length - p.1) (0, (0, S)) ⟨Nat.zero_le _, by simp [foldO], ⟨by simp, by simp⟩, hS⟩
      (Fits_mk (Le_cons rfl (Le_cons rfl (Le_cons rfl (Le_cons rfl (Le_d rfl rfl (Le_cons rfl Le_nil)))))) (Pre_cons rfl rfl (Pre_cons rfl rfl (Pre_cons rfl rfl Pre_nil))) rfl rfl) ?_
    rintro ⟨i, k, S1⟩ ⟨hi, hf, hk, hS1⟩
    dsimp only at hi hf hk hS1 ⊢
    have hg := fun a => hS1.get a
    rcases Nat.lt_or_ge i t.length with hlt | hge
    · have hx : t[i]? = some t[i] := List.getElem?_eq_getElem hlt
      generalize t[i] = x at hx
      obtain ⟨c, hc⟩ := foldO_take h (i + 1)
      have hst := foldO_snoc hx hf
      rw [hc] at hst
      have fin : ∀ {Q : Nat × (Int × Seen) → Prop}, ((0 ≤ c.1 ∧ c.1 ≤ 4001) ∧ SeenB c.2) → Q (i + 1, c) → ∃ y : Nat × (Int × Seen), (y.1 ≤ t.length ∧ foldO (szS n L) (0, S) (t.take y.1) = some y.2 ∧ (0 ≤ y.2.1 ∧ y.2.1 ≤ 4001) ∧ SeenB y.2.2) ∧ t.length - y.1 < t.length - i ∧ Q y :=
        fun hb hQ => ⟨(i + 1, c), ⟨hlt, hc, hb⟩, by show t.length - (i + 1) < _; omega, hQ⟩
      unfold szS at hst
      by_cases hk31 : x.kind = 31
      · rw [if_pos hk31] at hst
        cases hq : lookA L x.num with
        | none =>
          rw [hq] at hst; injection hst with hst; subst hst
          repeat' first
            | refine en_n ?_
            | refine awp_seq ?_
            | refine awp_region ?_
            | refine alex_nil ?_
            | refine w0 ?_
            | (apply Y_lssT; exact rfl; exact rfl; first | assumption | omega)
            | (apply Y_neqF; exact rfl; exact rfl; first | assumption | omega)
            | (apply Y_min; exact rfl; exact rfl)
            | (apply Y_nilc_p; exact rfl)
            | (apply Y_lookOkIv; exact sto_none hq; exact rfl; exact rfl; exact rfl; (with_reducible exact mt_51); (with_reducible exact ut_int); (with_reducible exact z1_nodes))
            | (apply aJ (hd := rfl); (first | exact Co_dd rfl | exact Co_bb rfl rfl rfl | exact Co_nn rfl); exact rfl; exact (by first | with_reducible exact es_binds | with_reducible exact es_nodes | with_reducible exact es_ints | with_reducible exact es_nodess | with_reducible exact es_toks | with_reducible exact es_strs | with_reducible exact es_u8s); assumption; omega; exact fun _ => rfl)
            | (apply aAlloc (hd := rfl) (hro := rfl); exact (by first | with_reducible exact zo_m68 | with_reducible exact zo_f24 | with_reducible exact zo_node | with_reducible exact zon_int | with_reducible exact zo_tok | with_reducible exact zo_int | with_reducible exact zo_i64))
            | apply ay (hd := rfl)
            | (apply Y_move_d; exact rfl)
            | (apply Y_assign_d; exact rfl)
            | (apply Y_load_r; exact rfl; exact (by first | with_reducible exact tc_bind | with_reducible exact tc_m51 | with_reducible exact tc_m68 | with_reducible exact tc_pst | with_reducible exact tc_pf | with_reducible exact tcn_int | with_reducible exact tc_nodes | with_reducible exact tc_node | with_reducible exact tc_ints | with_reducible exact tcn_kind | with_reducible exact tcn_i64 | with_reducible exact tcn_str | with_reducible exact tcn_bool | with_reducible exact tc_str | with_reducible exact tc_int | with_reducible exact tc_kind | with_reducible exact tc_tok | with_reducible exact tc_u8s | with_reducible exact tc_toks | with_reducible exact tc_strs | with_reducible exact tc_bool | with_reducible exact tc_err | with_reducible exact tc_i64); exact rfl)
            | (apply Y_add; exact rfl; exact rfl)
            | (apply Y_not; exact rfl)
            | (apply Y_pick_f; exact rfl; exact rfl)
            | (apply Y_extract; exact rfl; exact rfl)
            | (apply Y_move_ptr; exact rfl)
            | (apply Y_field_p; exact rfl; exact (by first | with_reducible exact fb_0 | with_reducible exact fb_1 | with_reducible exact fs_0 | with_reducible exact fs_1 | with_reducible exact fn_0 | with_reducible exact fn_1 | with_reducible exact fn_2 | with_reducible exact fn_3 | with_reducible exact fo_0 | with_reducible exact fo_1 | with_reducible exact fo_2 | with_reducible exact fo_3))
            | (apply Y_load_p; exact rfl; exact (by first | with_reducible exact tc_bind | with_reducible exact tc_m51 | with_reducible exact tc_m68 | with_reducible exact tc_pst | with_reducible exact tc_pf | with_reducible exact tcn_int | with_reducible exact tc_nodes | with_reducible exact tc_node | with_reducible exact tc_ints | with_reducible exact tcn_kind | with_reducible exact tcn_i64 | with_reducible exact tcn_str | with_reducible exact tcn_bool | with_reducible exact tc_str | with_reducible exact tc_int | with_reducible exact tc_kind | with_reducible exact tc_tok | with_reducible exact tc_u8s | with_reducible exact tc_toks | with_reducible exact tc_strs | with_reducible exact tc_bool | with_reducible exact tc_err | with_reducible exact tc_i64); exact rfl; exact rfl)
            | (apply w1; exact rfl; exact rfl)
            | (refine w0' ?_)
            | (apply aStore; exact rfl; exact rfl; exact rfl; exact (by first | with_reducible exact tc_bind | with_reducible exact tc_m51 | with_reducible exact tc_m68 | with_reducible exact tc_pst | with_reducible exact tc_pf | with_reducible exact tcn_int | with_reducible exact tc_nodes | with_reducible exact tc_node | with_reducible exact tc_ints | with_reducible exact tcn_kind | with_reducible exact tcn_i64 | with_reducible exact tcn_str | with_reducible exact tcn_bool | with_reducible exact tc_str | with_reducible exact tc_int | with_reducible exact tc_kind | with_reducible exact tc_tok | with_reducible exact tc_u8s | with_reducible exact tc_toks | with_reducible exact tc_strs | with_reducible exact tc_bool | with_reducible exact tc_err | with_reducible exact tc_i64); exact rfl; exact rfl; exact rfl; exact rfl)
            | (apply awp_condT; exact rfl)
            | refine awp_block ?_
            | refine awp_skip ?_
            | refine awp_draw (by kernel_rfl) (by kernel_rfl) ?_
            | refine eb_n ?_
          · omega
          · omega
          · exact fin ⟨by simp only; omega, hS1⟩ (Fits_mk (Le_cons rfl (Le_cons rfl (Le_cons rfl (Le_cons rfl (Le_cons rfl (Le_cons rfl Le_nil)))))) (Pre_cons rfl rfl (Pre_cons rfl rfl (Pre_cons rfl rfl Pre_nil))) rfl rfl)
        | some u =>
          rw [hq] at hst
          have hgx := hg x.num
          by_cases hs0 : (lookA S1 x.num).getD 0 > 0
          · simp only [hs0, if_true] at hst; injection hst with hst; subst hst
            repeat' first
              | refine en_n ?_
              | refine awp_seq ?_
              | refine awp_region ?_
              | refine alex_nil ?_
              | refine w0 ?_
              | (apply Y_lssT; exact rfl; exact rfl; first | assumption | omega)
              | (apply Y_gtrT; exact rfl; exact rfl; first | assumption | omega)
              | (apply Y_neqF; exact rfl; exact rfl; first | assumption | omega)
              | (apply Y_min; exact rfl; exact rfl)
              | (apply Y_nilc_p; exact rfl)
              | (apply Y_lookOkIv; exact sto_some hq; exact rfl; exact rfl; exact rfl; (with_reducible exact mt_51); (with_reducible exact ut_int); (with_reducible exact z1_nodes))
              | (apply Y_lookIv; exact look_seen S1 x.num; exact rfl; exact rfl; exact rfl; (with_reducible exact mt_68); (with_reducible exact ut_i64); (with_reducible exact z1_int))
              | (apply Y_move_mp; exact rfl)
              | (apply aJ (hd := rfl); (first | exact Co_dd rfl | exact Co_bb rfl rfl rfl | exact Co_nn rfl); exact rfl; exact (by first | with_reducible exact es_binds | with_reducible exact es_nodes | with_reducible exact es_ints | with_reducible exact es_nodess | with_reducible exact es_toks | with_reducible exact es_strs | with_reducible exact es_u8s); assumption; omega; exact fun _ => rfl)
              | (apply aAlloc (hd := rfl) (hro := rfl); exact (by first | with_reducible exact zo_m68 | with_reducible exact zo_f24 | with_reducible exact zo_node | with_reducible exact zon_int | with_reducible exact zo_tok | with_reducible exact zo_int | with_reducible exact zo_i64))
              | apply ay (hd := rfl)
              | (apply Y_move_d; exact rfl)
              | (apply Y_assign_d; exact rfl)
              | (apply Y_load_r; exact rfl; exact (by first | with_reducible exact tc_bind | with_reducible exact tc_m51 | with_reducible exact tc_m68 | with_reducible exact tc_pst | with_reducible exact tc_pf | with_reducible exact tcn_int | with_reducible exact tc_nodes | with_reducible exact tc_node | with_reducible exact tc_ints | with_reducible exact tcn_kind | with_reducible exact tcn_i64 | with_reducible exact tcn_str | with_reducible exact tcn_bool | with_reducible exact tc_str | with_reducible exact tc_int | with_reducible exact tc_kind | with_reducible exact tc_tok | with_reducible exact tc_u8s | with_reducible exact tc_toks | with_reducible exact tc_strs | with_reducible exact tc_bool | with_reducible exact tc_err | with_reducible exact tc_i64); exact rfl)
              | (apply Y_add; exact rfl; exact rfl)
              | (apply Y_not; exact rfl)
              | (apply Y_pick_f; exact rfl; exact rfl)
              | (apply Y_extract; exact rfl; exact rfl)
              | (apply Y_move_ptr; exact rfl)
              | (apply Y_field_p; exact rfl; exact (by first | with_reducible exact fb_0 | with_reducible exact fb_1 | with_reducible exact fs_0 | with_reducible exact fs_1 | with_reducible exact fn_0 | with_reducible exact fn_1 | with_reducible exact fn_2 | with_reducible exact fn_3 | with_reducible exact fo_0 | with_reducible exact fo_1 | with_reducible exact fo_2 | with_reducible exact fo_3))
              | (apply Y_load_p; exact rfl; exact (by first | with_reducible exact tc_bind | with_reducible exact tc_m51 | with_reducible exact tc_m68 | with_reducible exact tc_pst | with_reducible exact tc_pf | with_reducible exact tcn_int | with_reducible exact tc_nodes | with_reducible exact tc_node | with_reducible exact tc_ints | with_reducible exact tcn_kind | with_reducible exact tcn_i64 | with_reducible exact tcn_str | with_reducible exact tcn_bool | with_reducible exact tc_str | with_reducible exact tc_int | with_reducible exact tc_kind | with_reducible exact tc_tok | with_reducible exact tc_u8s | with_reducible exact tc_toks | with_reducible exact tc_strs | with_reducible exact tc_bool | with_reducible exact tc_err | with_reducible exact tc_i64); exact rfl; exact rfl)
              | (apply w1; exact rfl; exact rfl)
              | (refine w0' ?_)
              | (apply aStore; exact rfl; exact rfl; exact rfl; exact (by first | with_reducible exact tc_bind | with_reducible exact tc_m51 | with_reducible exact tc_m68 | with_reducible exact tc_pst | with_reducible exact tc_pf | with_reducible exact tcn_int | with_reducible exact tc_nodes | with_reducible exact tc_node | with_reducible exact tc_ints | with_reducible exact tcn_kind | with_reducible exact tcn_i64 | with_reducible exact tcn_str | with_reducible exact tcn_bool | with_reducible exact tc_str | with_reducible exact tc_int | with_reducible exact tc_kind | with_reducible exact tc_tok | with_reducible exact tc_u8s | with_reducible exact tc_toks | with_reducible exact tc_strs | with_reducible exact tc_bool | with_reducible exact tc_err | with_reducible exact tc_i64); exact rfl; exact rfl; exact rfl; exact rfl)
              | (apply awp_condT; exact rfl)
              | (apply awp_condF; exact rfl)
              | refine awp_block ?_
              | refine awp_skip ?_
              | refine awp_draw (by kernel_rfl) (by kernel_rfl) ?_
              | refine eb_n ?_
            · omega
            · omega
            · exact fin ⟨by simp only; omega, hS1⟩ (Fits_mk (Le_cons rfl (Le_cons rfl (Le_cons rfl (Le_cons rfl (Le_cons rfl (Le_cons rfl Le_nil)))))) (Pre_cons rfl rfl (Pre_cons rfl rfl (Pre_cons rfl rfl Pre_nil))) rfl rfl)
          · simp only [hs0, if_false] at hst
            have hu : u.length ≤ 1000000 := hL _ (lookA_mem hq)
            cases hz : sizeF n L u S1 with
            | none => rw [hz] at hst; cases hst
            | some q =>
              obtain ⟨m', S2⟩ := q
              rw [hz] at hst; injection hst with hst; subst hst
              have hc' := ih u S1 m' S2 hS1 hu hz
              obtain ⟨hm', hS2⟩ := sizeF_bd L n u S1 m' S2 hS1 hz
              have hput : (lookK (encA i64 (putA S2 x.num m')) x.num).getD (.val (.int .i64 0)) = i64 m' := by rw [look_seen, lookA_put, if_pos rfl]; rfl
              repeat' first
                | (refine awp_drawF (id := 6) [.mp 2, .ptr 3 2, .d (i64 x.num), .ptr 0 0, .d (nodes u), .mp 2] [0, 1, 2] (by kernel_rfl) (by kernel_rfl) rfl (.inr (by kernel_rfl)) ⟨⟨rfl, Y_move_mp rfl⟩, rfl, ⟨rfl, Y_field_p rfl fn_2⟩, rfl, ⟨rfl, Y_load_p rfl tcn_i64 rfl rfl⟩, rfl, ⟨rfl, Y_move_ptr rfl⟩, rfl, ⟨rfl, Y_move_d rfl⟩, rfl, ⟨rfl, Y_move_mp rfl⟩, rfl, trivial⟩ ⟨.inr ⟨rfl, rfl, Y_move_mp rfl⟩, .inr ⟨rfl, rfl, Y_field_p rfl fn_2⟩, .inr ⟨rfl, rfl, Y_load_p rfl tcn_i64 rfl rfl⟩, .inl (by kernel_rfl), .inl (by kernel_rfl), .inl (by kernel_rfl), trivial⟩ hb_ssize hc' ⟨rfl, rfl, rfl, trivial⟩ rfl rfl (by decide) rfl rfl rfl rfl rfl rfl ?_)
                | refine en_n ?_
                | refine awp_seq ?_
                | refine awp_region ?_
                | refine alex_nil ?_
                | refine w0 ?_
                | (apply Y_lssT; exact rfl; exact rfl; first | assumption | omega)
                | (apply Y_gtrF; exact rfl; exact rfl; first | assumption | omega)
                | (apply Y_neqF; exact rfl; exact rfl; first | assumption | omega)
                | (apply Y_min; exact rfl; exact rfl)
                | (apply Y_nilc_p; exact rfl)
                | (apply Y_lookOkIv; exact sto_some hq; exact rfl; exact rfl; exact rfl; (with_reducible exact mt_51); (with_reducible exact ut_int); (with_reducible exact z1_nodes))
                | (apply Y_lookIv; exact look_seen S1 x.num; exact rfl; exact rfl; exact rfl; (with_reducible exact mt_68); (with_reducible exact ut_i64); (with_reducible exact z1_int))
                | (apply Y_lookIv; exact hput; exact rfl; exact rfl; exact rfl; (with_reducible exact mt_68); (with_reducible exact ut_i64); (with_reducible exact z1_int))
                | (apply Y_move_mp; exact rfl)
                | (refine a_bar (by kernel_rfl) ?_; apply aMapPutV; exact putK_enc i64 S2 x.num m'; exact rfl; exact rfl; exact rfl; exact Co_dd rfl; (with_reducible exact mt_68); (with_reducible exact ut_i64); exact rfl)
                | (apply aJ (hd := rfl); (first | exact Co_dd rfl | exact Co_bb rfl rfl rfl | exact Co_nn rfl); exact rfl; exact (by first | with_reducible exact es_binds | with_reducible exact es_nodes | with_reducible exact es_ints | with_reducible exact es_nodess | with_reducible exact es_toks | with_reducible exact es_strs | with_reducible exact es_u8s); assumption; omega; exact fun _ => rfl)
                | (apply aAlloc (hd := rfl) (hro := rfl); exact (by first | with_reducible exact zo_m68 | with_reducible exact zo_f24 | with_reducible exact zo_node | with_reducible exact zon_int | with_reducible exact zo_tok | with_reducible exact zo_int | with_reducible exact zo_i64))
                | apply ay (hd := rfl)
                | (apply Y_move_d; exact rfl)
                | (apply Y_assign_d; exact rfl)
                | (apply Y_load_r; exact rfl; exact (by first | with_reducible exact tc_bind | with_reducible exact tc_m51 | with_reducible exact tc_m68 | with_reducible exact tc_pst | with_reducible exact tc_pf | with_reducible exact tcn_int | with_reducible exact tc_nodes | with_reducible exact tc_node | with_reducible exact tc_ints | with_reducible exact tcn_kind | with_reducible exact tcn_i64 | with_reducible exact tcn_str | with_reducible exact tcn_bool | with_reducible exact tc_str | with_reducible exact tc_int | with_reducible exact tc_kind | with_reducible exact tc_tok | with_reducible exact tc_u8s | with_reducible exact tc_toks | with_reducible exact tc_strs | with_reducible exact tc_bool | with_reducible exact tc_err | with_reducible exact tc_i64); exact rfl)
                | (apply Y_add; exact rfl; exact rfl)
                | (apply Y_not; exact rfl)
                | (apply Y_pick_f; exact rfl; exact rfl)
                | (apply Y_extract; exact rfl; exact rfl)
                | (apply Y_move_ptr; exact rfl)
                | (apply Y_field_p; exact rfl; exact (by first | with_reducible exact fb_0 | with_reducible exact fb_1 | with_reducible exact fs_0 | with_reducible exact fs_1 | with_reducible exact fn_0 | with_reducible exact fn_1 | with_reducible exact fn_2 | with_reducible exact fn_3 | with_reducible exact fo_0 | with_reducible exact fo_1 | with_reducible exact fo_2 | with_reducible exact fo_3))
                | (apply Y_load_p; exact rfl; exact (by first | with_reducible exact tc_bind | with_reducible exact tc_m51 | with_reducible exact tc_m68 | with_reducible exact tc_pst | with_reducible exact tc_pf | with_reducible exact tcn_int | with_reducible exact tc_nodes | with_reducible exact tc_node | with_reducible exact tc_ints | with_reducible exact tcn_kind | with_reducible exact tcn_i64 | with_reducible exact tcn_str | with_reducible exact tcn_bool | with_reducible exact tc_str | with_reducible exact tc_int | with_reducible exact tc_kind | with_reducible exact tc_tok | with_reducible exact tc_u8s | with_reducible exact tc_toks | with_reducible exact tc_strs | with_reducible exact tc_bool | with_reducible exact tc_err | with_reducible exact tc_i64); exact rfl; exact rfl)
                | (apply w1; exact rfl; exact rfl)
                | (refine w0' ?_)
                | (apply aStore; exact rfl; exact rfl; exact rfl; exact (by first | with_reducible exact tc_bind | with_reducible exact tc_m51 | with_reducible exact tc_m68 | with_reducible exact tc_pst | with_reducible exact tc_pf | with_reducible exact tcn_int | with_reducible exact tc_nodes | with_reducible exact tc_node | with_reducible exact tc_ints | with_reducible exact tcn_kind | with_reducible exact tcn_i64 | with_reducible exact tcn_str | with_reducible exact tcn_bool | with_reducible exact tc_str | with_reducible exact tc_int | with_reducible exact tc_kind | with_reducible exact tc_tok | with_reducible exact tc_u8s | with_reducible exact tc_toks | with_reducible exact tc_strs | with_reducible exact tc_bool | with_reducible exact tc_err | with_reducible exact tc_i64); exact rfl; exact rfl; exact rfl; exact rfl)
                | (apply awp_condT; exact rfl)
                | (apply awp_condF; exact rfl)
                | refine awp_block ?_
                | refine awp_skip ?_
                | refine awp_draw (by kernel_rfl) (by kernel_rfl) ?_
                | refine eb_n ?_
              · omega
              · omega
              · exact fin ⟨by simp only; omega, hS2.put hm'⟩ (Fits_mk (Le_cons rfl (Le_cons rfl (Le_cons rfl (Le_cons rfl (Le_cons rfl (Le_cons rfl Le_nil)))))) (Pre_cons rfl rfl (Pre_cons rfl rfl (Pre_cons rfl rfl Pre_nil))) rfl rfl)
      · rw [if_neg hk31] at hst; injection hst with hst; subst hst
        repeat' first
          | refine en_n ?_
          | refine awp_seq ?_
          | refine awp_region ?_
          | refine alex_nil ?_
          | refine w0 ?_
          | (apply Y_lssT; exact rfl; exact rfl; first | assumption | omega)
          | (apply Y_neqT; exact rfl; exact rfl; first | assumption | omega)
          | (apply Y_min; exact rfl; exact rfl)
          | (apply Y_nilc_p; exact rfl)
          | (apply Y_lookOkIv; exact ⟨rfl, rfl⟩; exact rfl; exact rfl; exact rfl; (with_reducible exact mt_51); (with_reducible exact ut_int); (with_reducible exact z1_nodes))
          | (apply aJ (hd := rfl); (first | exact Co_dd rfl | exact Co_bb rfl rfl rfl | exact Co_nn rfl); exact rfl; exact (by first | with_reducible exact es_binds | with_reducible exact es_nodes | with_reducible exact es_ints | with_reducible exact es_nodess | with_reducible exact es_toks | with_reducible exact es_strs | with_reducible exact es_u8s); assumption; omega; exact fun _ => rfl)
          | (apply aAlloc (hd := rfl) (hro := rfl); exact (by first | with_reducible exact zo_m68 | with_reducible exact zo_f24 | with_reducible exact zo_node | with_reducible exact zon_int | with_reducible exact zo_tok | with_reducible exact zo_int | with_reducible exact zo_i64))
          | apply ay (hd := rfl)
          | (apply Y_move_d; exact rfl)
          | (apply Y_assign_d; exact rfl)
          | (apply Y_load_r; exact rfl; exact (by first | with_reducible exact tc_bind | with_reducible exact tc_m51 | with_reducible exact tc_m68 | with_reducible exact tc_pst | with_reducible exact tc_pf | with_reducible exact tcn_int | with_reducible exact tc_nodes | with_reducible exact tc_node | with_reducible exact tc_ints | with_reducible exact tcn_kind | with_reducible exact tcn_i64 | with_reducible exact tcn_str | with_reducible exact tcn_bool | with_reducible exact tc_str | with_reducible exact tc_int | with_reducible exact tc_kind | with_reducible exact tc_tok | with_reducible exact tc_u8s | with_reducible exact tc_toks | with_reducible exact tc_strs | with_reducible exact tc_bool | with_reducible exact tc_err | with_reducible exact tc_i64); exact rfl)
          | (apply Y_add; exact rfl; exact rfl)
          | (apply Y_pick_t; exact rfl; exact rfl)
          | (apply Y_extract; exact rfl; exact rfl)
          | (apply Y_move_ptr; exact rfl)
          | (apply Y_field_p; exact rfl; exact (by first | with_reducible exact fb_0 | with_reducible exact fb_1 | with_reducible exact fs_0 | with_reducible exact fs_1 | with_reducible exact fn_0 | with_reducible exact fn_1 | with_reducible exact fn_2 | with_reducible exact fn_3 | with_reducible exact fo_0 | with_reducible exact fo_1 | with_reducible exact fo_2 | with_reducible exact fo_3))
          | (apply Y_load_p; exact rfl; exact (by first | with_reducible exact tc_bind | with_reducible exact tc_m51 | with_reducible exact tc_m68 | with_reducible exact tc_pst | with_reducible exact tc_pf | with_reducible exact tcn_int | with_reducible exact tc_nodes | with_reducible exact tc_node | with_reducible exact tc_ints | with_reducible exact tcn_kind | with_reducible exact tcn_i64 | with_reducible exact tcn_str | with_reducible exact tcn_bool | with_reducible exact tc_str | with_reducible exact tc_int | with_reducible exact tc_kind | with_reducible exact tc_tok | with_reducible exact tc_u8s | with_reducible exact tc_toks | with_reducible exact tc_strs | with_reducible exact tc_bool | with_reducible exact tc_err | with_reducible exact tc_i64); exact rfl; exact rfl)
          | (apply k0 (hd := rfl); exact rfl; exact rfl)
          | (refine w0' ?_)
          | (apply aStore; exact rfl; exact rfl; exact rfl; exact (by first | with_reducible exact tc_bind | with_reducible exact tc_m51 | with_reducible exact tc_m68 | with_reducible exact tc_pst | with_reducible exact tc_pf | with_reducible exact tcn_int | with_reducible exact tc_nodes | with_reducible exact tc_node | with_reducible exact tc_ints | with_reducible exact tcn_kind | with_reducible exact tcn_i64 | with_reducible exact tcn_str | with_reducible exact tcn_bool | with_reducible exact tc_str | with_reducible exact tc_int | with_reducible exact tc_kind | with_reducible exact tc_tok | with_reducible exact tc_u8s | with_reducible exact tc_toks | with_reducible exact tc_strs | with_reducible exact tc_bool | with_reducible exact tc_err | with_reducible exact tc_i64); exact rfl; exact rfl; exact rfl; exact rfl)
          | (apply awp_condT; exact rfl)
          | refine awp_block ?_
          | refine awp_skip ?_
          | refine awp_draw (by kernel_rfl) (by kernel_rfl) ?_
          | refine eb_n ?_
        · omega
        · omega
        · exact fin ⟨by simp only; omega, hS1⟩ (Fits_mk (Le_cons rfl (Le_cons rfl (Le_cons rfl (Le_cons rfl (Le_cons rfl (Le_cons rfl Le_nil)))))) (Pre_cons rfl rfl (Pre_cons rfl rfl (Pre_cons rfl rfl Pre_nil))) rfl rfl)
    · have e : (k, S1) = (m, S') := by rw [List.take_of_length_le hge, h] at hf; injection hf with hf; exact hf.symm
      injection e with e1 e2; subst e1; subst e2
      repeat' first
        | refine en_n ?_
        | refine awp_seq ?_
        | refine awp_region ?_
        | refine alex_nil ?_
        | refine w0 ?_
        | (apply Y_lssF; exact rfl; exact rfl; first | assumption | omega)
        | apply ay (hd := rfl)
        | (apply Y_move_d; exact rfl)
        | (apply Y_assign_d; exact rfl)
        | (apply awp_condF; exact rfl)
        | refine awp_ret ?_
        | refine awp_exit ?_
        | refine en_e ?_
        | refine eb_e ?_
      exact mpost_ret (Fits_mk (Le_cons rfl Le_nil) (Pre_cons rfl rfl (Pre_cons rfl rfl (Pre_cons rfl rfl Pre_nil))) rfl rfl)
end Go.Proofs.YtamhkcnpocdfcaaGreatDoor
/- The statements on types: the walk of part. -/
namespace Go.Proofs.YtamhkcnpocdfcaaGreatDoor
open Go.Sx
def inS (n : Nat) (L : Sto) (v : Int) (p : Bool × Seen) (x : Nd) : Option (Bool × Seen) :=
  if p.1 then some p
  else if x.kind ≠ 31 ∨ (lookA p.2 x.num).getD 0 > 0 then some p
  else if x.num = v then some (true, putA p.2 x.num ((lookA p.2 x.num).getD 0 + 1))
  else inF n L v ((lookA L x.num).getD []) (putA p.2 x.num ((lookA p.2 x.num).getD 0 + 1))
theorem inF_succ (n : Nat) (L : Sto) (v : Int) (t : List Nd) (S : Seen) : inF (n + 1) L v t S = foldO (inS n L v) (false, S) t := rfl
/-- once it is told, it stays so -/
theorem inS_true {n : Nat} {L : Sto} {v : Int} : ∀ {t : List Nd} {S : Seen} {r : Bool × Seen}, foldO (inS n L v) (true, S) t = some r → r = (true, S)
  | [], S, r, h => by simp only [foldO, Option.some.injEq] at h; exact h.symm
  | x :: t, S, r, h => by
    simp only [foldO, inS, if_true] at h
    exact inS_true h
theorem inS_split {n : Nat} {L : Sto} {v : Int} : ∀ {t : List Nd} {b : Bool × Seen} {r : Bool × Seen} {i : Nat} {S : Seen}, foldO (inS n L v) b t = some r → foldO (inS n L v) b (t.take i) = some (true, S) → r = (true, S)
  | [], b, r, i, S, h, h2 => by simp only [List.take_nil] at h2; rw [h] at h2; exact Option.some.inj h2
  | x :: t, b, r, 0, S, h, h2 => by
    simp only [List.take_zero, foldO, Option.some.injEq] at h2; subst h2
    exact inS_true h
  | x :: t, b, r, i + 1, S, h, h2 => by
    simp only [List.take_succ_cons, foldO] at h h2
    cases hf : inS n L v b x with
    | none => rw [hf] at h; cases h
    | some c => rw [hf] at h h2; exact inS_split h h2

/-- seen is a small number -/
def Small (S : Seen) : Prop := ∀ a w, lookA S a = some w → 0 ≤ w ∧ w ≤ 1
theorem Small.put {S : Seen} (h : Small S) {a : Int} (hv : ¬ (lookA S a).getD 0 > 0) : Small (putA S a ((lookA S a).getD 0 + 1)) := fun b w hb => by
  rw [lookA_put] at hb
  split at hb
  · injection hb with hb; subst hb
    cases hq : lookA S a with
    | none => simp
    | some v => rw [hq] at hv; simp only [Option.getD_some] at hv ⊢; have := h a v hq; omega
  · exact h b w hb
theorem inF_small (L : Sto) (v : Int) : ∀ (n : Nat) (t : List Nd) (S : Seen) (r : Bool × Seen), Small S → inF n L v t S = some r → Small r.2
  | 0, _, _, _, _, h => by cases h
  | n + 1, t, S, r, hS, h => by
    have ih := inF_small L v n
    rw [inF_succ] at h
    refine foldO_inv (J := fun p : Bool × Seen => Small p.2) (fun p x c hp hc => ?_) hS h
    unfold inS at hc
    split at hc
    · injection hc with hc; subst hc; exact hp
    · split at hc
      · injection hc with hc; subst hc; exact hp
      · rename_i h2
        have h2' : ¬ (lookA p.2 x.num).getD 0 > 0 := fun h => h2 (.inr h)
        split at hc
        · injection hc with hc; subst hc; exact hp.put h2'
        · exact ih _ _ _ (hp.put h2') hc

attribute [local irreducible] hasBody Program.underlying Ylds astep alex alexE alexD awp PCall FCall RCall MCall QCall athen ablock ajump rpost fpost mpost rpostC
/-- what the closure sees: its variables seen, v, in, s; the store; the map -/
abbrev parO (nx : Int) (L : Sto) (v : Int) (S : Seen) : List Ob := [.bx none none [.mp 6], .bx none none [.d (i64 v)], .bx none none [.clo 91 [0, 1, 2, 3]], .bx none none [.ptr 4 0], .bx none none [.d (i64 nx), .mp 5], .map none (mSto L), .map none (mSeen S)]

set_option maxHeartbeats 4000000 in
theorem part1_ok (nx : Int) (L : Sto) (v : Int) (hL : ∀ p ∈ L, p.2.length ≤ 1000000) : ∀ (n : Nat) (t : List Nd) (S : Seen) (b : Bool) (S' : Seen), Small S → t.length ≤ 1000000 → inF n L v t S = some (b, S') →
    MCall Tryz.prog 91 [.d (nodes t), .ptr 0 0, .ptr 1 0, .ptr 2 0, .ptr 3 0] (parO nx L v S) (.d (bl b)) (parO nx L v S')
  | 0, _, _, _, _, _, _, h => by cases h
  | n + 1, t, S, b, S', hS, ht, h => by
    have ih := part1_ok nx L v hL n
    have hinv := h
    rw [inF_succ] at h
    refine mcall_of Tryz.func91 rfl Tryz.ntmps91 Tryz.results91 rfl rfl rfl ?_
    intro wb St0 X fx
    repeat' first
      | refine en_n ?_
      | refine awp_seq ?_
      | refine awp_region ?_
      | refine alex_nil ?_
      | refine w0 ?_
      | apply ay (hd := rfl)
      | (apply Y_move_d; exact rfl)
      | (apply Y_assign_d; exact rfl)
      | (apply Y_len_m; exact rfl; exact (by first | with_reducible exact et_binds | with_reducible exact et_nodes | with_reducible exact et_ints | with_reducible exact et_nodess | with_reducible exact et_toks | with_reducible exact et_strs | with_reducible exact et_u8s))
      | refine awp_block ?_
    refine awp_loopF (α := Nat × Seen) (fun p => p.1 ≤ t.length ∧ foldO (inS n L v) (false, S) (t.take p.1) = some (false, p.2) ∧ Small p.2) (fun p => [(1, .ptr 0 0), (2, .ptr 1 0), (3, .ptr 2 0), (4, .ptr 3 0), (9, .d (nodes t)), (10, .d (i64 (t.length : Int))), (11, .d (i64 (p.1 : Int)))])
      (fun p => [.bx (fx 0) none [.mp 6], .bx (fx 1) none [.d (i64 v)], .bx (fx 2) none [.clo 91 [0, 1, 2, 3]], .bx (fx 3) none [.ptr 4 0], .bx (fx 4) none [.d (i64 nx), .mp 5], .map (fx 5) (mSto L), .map (fx 6) (mSeen p.2)]) (fun p => t.length - p.1) (0, S) ⟨Nat.zero_le _, by simp [foldO], hS⟩
      (Fits_mk (Le_cons rfl (Le_cons rfl (Le_cons rfl (Le_cons rfl (Le_cons rfl (Le_d rfl rfl (Le_cons rfl Le_nil))))))) (Pre_cons rfl rfl (Pre_cons rfl rfl (Pre_cons rfl rfl (Pre_cons rfl rfl (Pre_cons rfl rfl (Pre_cons rfl rfl (Pre_cons rfl rfl Pre_nil))))))) rfl rfl) ?_
    rintro ⟨i, S1⟩ ⟨hi, hf, hS1⟩
    dsimp only at hi hf hS1 ⊢
    rcases Nat.lt_or_ge i t.length with hlt | hge
    · have hx : t[i]? = some t[i] := List.getElem?_eq_getElem hlt
      generalize t[i] = x at hx
      obtain ⟨c, hc⟩ := foldO_take h (i + 1)
      have hst := foldO_snoc hx hf
      rw [hc] at hst
      have fin : ∀ {Q : Nat × Seen → Prop} {S2 : Seen}, c = (false, S2) → Small S2 → Q (i + 1, S2) → ∃ y : Nat × Seen, (y.1 ≤ t.length ∧ foldO (inS n L v) (false, S) (t.take y.1) = some (false, y.2) ∧ Small y.2) ∧ t.length - y.1 < t.length - i ∧ Q y :=
        fun {Q S2} he hb hQ => ⟨(i + 1, S2), ⟨hlt, by rw [hc, he], hb⟩, by show t.length - (i + 1) < _; omega, hQ⟩
      unfold inS at hst
      simp only [Bool.false_eq_true, if_false] at hst
      have hsm : 0 ≤ (lookA S1 x.num).getD 0 ∧ (lookA S1 x.num).getD 0 ≤ 1 := by
        cases hq : lookA S1 x.num with
        | none => simp
        | some w => simpa using hS1 _ _ hq
      by_cases hk : x.kind = 31
      · by_cases hs0 : (lookA S1 x.num).getD 0 > 0
        · rw [if_pos (.inr hs0)] at hst; injection hst with hst
          repeat' first
            | refine en_n ?_
            | refine awp_seq ?_
            | refine awp_region ?_
            | refine alex_nil ?_
            | refine w0 ?_
            | (apply Y_lssT; exact rfl; exact rfl; first | assumption | omega)
            | (apply Y_gtrT; exact rfl; exact rfl; first | assumption | omega)
            | (apply Y_neqF; exact rfl; exact rfl; first | assumption | omega)
            | (apply Y_lookIv; exact look_seen S1 x.num; exact rfl; exact rfl; exact rfl; (with_reducible exact mt_68); (with_reducible exact ut_i64); (with_reducible exact z1_int))
            | (apply aJ (hd := rfl); (first | exact Co_dd rfl | exact Co_bb rfl rfl rfl | exact Co_nn rfl); exact rfl; exact (by first | with_reducible exact es_binds | with_reducible exact es_nodes | with_reducible exact es_ints | with_reducible exact es_nodess | with_reducible exact es_toks | with_reducible exact es_strs | with_reducible exact es_u8s); assumption; omega; exact fun _ => rfl)
            | (apply aAlloc (hd := rfl) (hro := rfl); exact (by first | with_reducible exact zo_m68 | with_reducible exact zo_f24 | with_reducible exact zo_node | with_reducible exact zon_int | with_reducible exact zo_tok | with_reducible exact zo_int | with_reducible exact zo_i64))
            | apply ay (hd := rfl)
            | (apply Y_move_d; exact rfl)
            | (apply Y_load_r; exact rfl; exact (by first | with_reducible exact tc_bind | with_reducible exact tc_m51 | with_reducible exact tc_m68 | with_reducible exact tc_pst | with_reducible exact tc_pf | with_reducible exact tcn_int | with_reducible exact tc_nodes | with_reducible exact tc_node | with_reducible exact tc_ints | with_reducible exact tcn_kind | with_reducible exact tcn_i64 | with_reducible exact tcn_str | with_reducible exact tcn_bool | with_reducible exact tc_str | with_reducible exact tc_int | with_reducible exact tc_kind | with_reducible exact tc_tok | with_reducible exact tc_u8s | with_reducible exact tc_toks | with_reducible exact tc_strs | with_reducible exact tc_bool | with_reducible exact tc_err | with_reducible exact tc_i64); exact rfl)
            | (apply Y_add; exact rfl; exact rfl)
            | (apply Y_pick_f; exact rfl; exact rfl)
            | (apply Y_field_p; exact rfl; exact (by first | with_reducible exact fb_0 | with_reducible exact fb_1 | with_reducible exact fs_0 | with_reducible exact fs_1 | with_reducible exact fn_0 | with_reducible exact fn_1 | with_reducible exact fn_2 | with_reducible exact fn_3 | with_reducible exact fo_0 | with_reducible exact fo_1 | with_reducible exact fo_2 | with_reducible exact fo_3))
            | (apply Y_load_p; exact rfl; exact (by first | with_reducible exact tc_bind | with_reducible exact tc_m51 | with_reducible exact tc_m68 | with_reducible exact tc_pst | with_reducible exact tc_pf | with_reducible exact tcn_int | with_reducible exact tc_nodes | with_reducible exact tc_node | with_reducible exact tc_ints | with_reducible exact tcn_kind | with_reducible exact tcn_i64 | with_reducible exact tcn_str | with_reducible exact tcn_bool | with_reducible exact tc_str | with_reducible exact tc_int | with_reducible exact tc_kind | with_reducible exact tc_tok | with_reducible exact tc_u8s | with_reducible exact tc_toks | with_reducible exact tc_strs | with_reducible exact tc_bool | with_reducible exact tc_err | with_reducible exact tc_i64); exact rfl; exact rfl)
            | (apply w1; exact rfl; exact rfl)
            | (refine w0' ?_)
            | (apply aStore; exact rfl; exact rfl; exact rfl; exact (by first | with_reducible exact tc_bind | with_reducible exact tc_m51 | with_reducible exact tc_m68 | with_reducible exact tc_pst | with_reducible exact tc_pf | with_reducible exact tcn_int | with_reducible exact tc_nodes | with_reducible exact tc_node | with_reducible exact tc_ints | with_reducible exact tcn_kind | with_reducible exact tcn_i64 | with_reducible exact tcn_str | with_reducible exact tcn_bool | with_reducible exact tc_str | with_reducible exact tc_int | with_reducible exact tc_kind | with_reducible exact tc_tok | with_reducible exact tc_u8s | with_reducible exact tc_toks | with_reducible exact tc_strs | with_reducible exact tc_bool | with_reducible exact tc_err | with_reducible exact tc_i64); exact rfl; exact rfl; exact rfl; exact rfl)
            | (apply awp_condT; exact rfl)
            | refine awp_block ?_
            | refine awp_skip ?_
            | refine awp_exit ?_
            | refine en_e ?_
            | refine eb_e ?_
          · omega
          · exact fin hst hS1 (Fits_mk (Le_cons rfl (Le_cons rfl (Le_cons rfl (Le_cons rfl (Le_cons rfl (Le_cons rfl (Le_cons rfl Le_nil))))))) (Pre_cons rfl rfl (Pre_cons rfl rfl (Pre_cons rfl rfl (Pre_cons rfl rfl (Pre_cons rfl rfl (Pre_cons rfl rfl (Pre_cons rfl rfl Pre_nil))))))) rfl rfl)
        · rw [if_neg (by omega)] at hst
          have hS2 := hS1.put hs0
          by_cases hv : x.num = v
          · rw [if_pos hv] at hst; injection hst with hst
            have hr := inS_split h (i := i + 1) (by rw [hc, hst])
            injection hr with e1 e2; subst e1; subst e2
            repeat' first
              | refine en_n ?_
              | refine awp_seq ?_
              | refine awp_region ?_
              | refine alex_nil ?_
              | refine w0 ?_
              | (apply Y_lssT; exact rfl; exact rfl; first | assumption | omega)
              | (apply Y_gtrF; exact rfl; exact rfl; first | assumption | omega)
              | (apply Y_eqlT; exact rfl; exact rfl; first | assumption | omega)
              | (apply Y_neqF; exact rfl; exact rfl; first | assumption | omega)
              | (apply Y_lookIv; exact look_seen S1 x.num; exact rfl; exact rfl; exact rfl; (with_reducible exact mt_68); (with_reducible exact ut_i64); (with_reducible exact z1_int))
              | (apply aMapPutV; exact putK_enc i64 S1 x.num ((lookA S1 x.num).getD 0 + 1); exact rfl; exact rfl; exact rfl; exact Co_dd rfl; (with_reducible exact mt_68); (with_reducible exact ut_i64); exact rfl)
              | (apply aJ (hd := rfl); (first | exact Co_dd rfl | exact Co_bb rfl rfl rfl | exact Co_nn rfl); exact rfl; exact (by first | with_reducible exact es_binds | with_reducible exact es_nodes | with_reducible exact es_ints | with_reducible exact es_nodess | with_reducible exact es_toks | with_reducible exact es_strs | with_reducible exact es_u8s); assumption; omega; exact fun _ => rfl)
              | (apply aAlloc (hd := rfl) (hro := rfl); exact (by first | with_reducible exact zo_m68 | with_reducible exact zo_f24 | with_reducible exact zo_node | with_reducible exact zon_int | with_reducible exact zo_tok | with_reducible exact zo_int | with_reducible exact zo_i64))
              | apply ay (hd := rfl)
              | (apply Y_move_d; exact rfl)
              | (apply Y_assign_d; exact rfl)
              | (apply Y_load_r; exact rfl; exact (by first | with_reducible exact tc_bind | with_reducible exact tc_m51 | with_reducible exact tc_m68 | with_reducible exact tc_pst | with_reducible exact tc_pf | with_reducible exact tcn_int | with_reducible exact tc_nodes | with_reducible exact tc_node | with_reducible exact tc_ints | with_reducible exact tcn_kind | with_reducible exact tcn_i64 | with_reducible exact tcn_str | with_reducible exact tcn_bool | with_reducible exact tc_str | with_reducible exact tc_int | with_reducible exact tc_kind | with_reducible exact tc_tok | with_reducible exact tc_u8s | with_reducible exact tc_toks | with_reducible exact tc_strs | with_reducible exact tc_bool | with_reducible exact tc_err | with_reducible exact tc_i64); exact rfl)
              | (apply Y_add; exact rfl; exact rfl)
              | (apply Y_pick_t; exact rfl; exact rfl)
              | (apply Y_pick_f; exact rfl; exact rfl)
              | (apply Y_field_p; exact rfl; exact (by first | with_reducible exact fb_0 | with_reducible exact fb_1 | with_reducible exact fs_0 | with_reducible exact fs_1 | with_reducible exact fn_0 | with_reducible exact fn_1 | with_reducible exact fn_2 | with_reducible exact fn_3 | with_reducible exact fo_0 | with_reducible exact fo_1 | with_reducible exact fo_2 | with_reducible exact fo_3))
              | (apply Y_load_p; exact rfl; exact (by first | with_reducible exact tc_bind | with_reducible exact tc_m51 | with_reducible exact tc_m68 | with_reducible exact tc_pst | with_reducible exact tc_pf | with_reducible exact tcn_int | with_reducible exact tc_nodes | with_reducible exact tc_node | with_reducible exact tc_ints | with_reducible exact tcn_kind | with_reducible exact tcn_i64 | with_reducible exact tcn_str | with_reducible exact tcn_bool | with_reducible exact tc_str | with_reducible exact tc_int | with_reducible exact tc_kind | with_reducible exact tc_tok | with_reducible exact tc_u8s | with_reducible exact tc_toks | with_reducible exact tc_strs | with_reducible exact tc_bool | with_reducible exact tc_err | with_reducible exact tc_i64); exact rfl; exact rfl)
              | (apply w1; exact rfl; exact rfl)
              | (apply k0 (hd := rfl); exact rfl; exact rfl)
              | (refine w0' ?_)
              | (apply aStore; exact rfl; exact rfl; exact rfl; exact (by first | with_reducible exact tc_bind | with_reducible exact tc_m51 | with_reducible exact tc_m68 | with_reducible exact tc_pst | with_reducible exact tc_pf | with_reducible exact tcn_int | with_reducible exact tc_nodes | with_reducible exact tc_node | with_reducible exact tc_ints | with_reducible exact tcn_kind | with_reducible exact tcn_i64 | with_reducible exact tcn_str | with_reducible exact tcn_bool | with_reducible exact tc_str | with_reducible exact tc_int | with_reducible exact tc_kind | with_reducible exact tc_tok | with_reducible exact tc_u8s | with_reducible exact tc_toks | with_reducible exact tc_strs | with_reducible exact tc_bool | with_reducible exact tc_err | with_reducible exact tc_i64); exact rfl; exact rfl; exact rfl; exact rfl)
              | (apply awp_condT; exact rfl)
              | (apply awp_condF; exact rfl)
              | refine awp_block ?_
              | refine awp_skip ?_
              | refine awp_ret ?_
              | refine awp_draw (by kernel_rfl) (by kernel_rfl) ?_
              | refine en_r ?_
              | refine eb_r ?_
            · omega
            · exact mpost_ret (Fits_mk (Le_cons rfl Le_nil) (Pre_cons rfl rfl (Pre_cons rfl rfl (Pre_cons rfl rfl (Pre_cons rfl rfl (Pre_cons rfl rfl (Pre_cons rfl rfl (Pre_cons rfl rfl Pre_nil))))))) rfl rfl)
          · rw [if_neg hv] at hst
            obtain ⟨b2, S2⟩ := c
            have hu : ((lookA L x.num).getD []).length ≤ 1000000 := by
              cases hq : lookA L x.num with
              | none => simp
              | some u => exact hL _ (lookA_mem hq)
            have hc' := ih _ _ b2 S2 hS2 hu hst.symm
            have hS3 := inF_small L v n _ _ _ hS2 hst.symm
            repeat' first
              | refine en_n ?_
              | refine awp_seq ?_
              | refine awp_region ?_
              | refine alex_nil ?_
              | refine w0 ?_
              | (apply Y_lssT; exact rfl; exact rfl; first | assumption | omega)
              | (apply Y_gtrF; exact rfl; exact rfl; first | assumption | omega)
              | (apply Y_eqlF; exact rfl; exact rfl; first | assumption | omega)
              | (apply Y_neqF; exact rfl; exact rfl; first | assumption | omega)
              | (apply Y_nilc_p; exact rfl)
              | (apply Y_lookIv; exact look_seen S1 x.num; exact rfl; exact rfl; exact rfl; (with_reducible exact mt_68); (with_reducible exact ut_i64); (with_reducible exact z1_int))
              | (apply aMapPutV; exact putK_enc i64 S1 x.num ((lookA S1 x.num).getD 0 + 1); exact rfl; exact rfl; exact rfl; exact Co_dd rfl; (with_reducible exact mt_68); (with_reducible exact ut_i64); exact rfl)
              | (apply Y_lookIv; exact (look_sto L x.num).1; exact rfl; exact rfl; exact rfl; (with_reducible exact mt_51); (with_reducible exact ut_int); (with_reducible exact z1_nodes))
              | (refine a_bar (by kernel_rfl) ?_; refine aMClo [0, 1, 2, 3, 4, 5, 6] [0, 1, 2, 3] rfl rfl hb_part1 (hc') rfl ?_ rfl rfl (by decide) rfl rfl rfl rfl rfl rfl ?_; (repeat (refine SArgs_cons rfl ?_)); exact SArgs_nil)
              | (apply aJ (hd := rfl); (first | exact Co_dd rfl | exact Co_bb rfl rfl rfl | exact Co_nn rfl); exact rfl; exact (by first | with_reducible exact es_binds | with_reducible exact es_nodes | with_reducible exact es_ints | with_reducible exact es_nodess | with_reducible exact es_toks | with_reducible exact es_strs | with_reducible exact es_u8s); assumption; omega; exact fun _ => rfl)
              | (apply aAlloc (hd := rfl) (hro := rfl); exact (by first | with_reducible exact zo_m68 | with_reducible exact zo_f24 | with_reducible exact zo_node | with_reducible exact zon_int | with_reducible exact zo_tok | with_reducible exact zo_int | with_reducible exact zo_i64))
              | apply ay (hd := rfl)
              | (apply Y_move_d; exact rfl)
              | (apply Y_assign_d; exact rfl)
              | (apply Y_load_r; exact rfl; exact (by first | with_reducible exact tc_bind | with_reducible exact tc_m51 | with_reducible exact tc_m68 | with_reducible exact tc_pst | with_reducible exact tc_pf | with_reducible exact tcn_int | with_reducible exact tc_nodes | with_reducible exact tc_node | with_reducible exact tc_ints | with_reducible exact tcn_kind | with_reducible exact tcn_i64 | with_reducible exact tcn_str | with_reducible exact tcn_bool | with_reducible exact tc_str | with_reducible exact tc_int | with_reducible exact tc_kind | with_reducible exact tc_tok | with_reducible exact tc_u8s | with_reducible exact tc_toks | with_reducible exact tc_strs | with_reducible exact tc_bool | with_reducible exact tc_err | with_reducible exact tc_i64); exact rfl)
              | (apply Y_add; exact rfl; exact rfl)
              | (apply Y_pick_f; exact rfl; exact rfl)
              | (apply Y_field_p; exact rfl; exact (by first | with_reducible exact fb_0 | with_reducible exact fb_1 | with_reducible exact fs_0 | with_reducible exact fs_1 | with_reducible exact fn_0 | with_reducible exact fn_1 | with_reducible exact fn_2 | with_reducible exact fn_3 | with_reducible exact fo_0 | with_reducible exact fo_1 | with_reducible exact fo_2 | with_reducible exact fo_3))
              | (apply Y_load_p; exact rfl; exact (by first | with_reducible exact tc_bind | with_reducible exact tc_m51 | with_reducible exact tc_m68 | with_reducible exact tc_pst | with_reducible exact tc_pf | with_reducible exact tcn_int | with_reducible exact tc_nodes | with_reducible exact tc_node | with_reducible exact tc_ints | with_reducible exact tcn_kind | with_reducible exact tcn_i64 | with_reducible exact tcn_str | with_reducible exact tcn_bool | with_reducible exact tc_str | with_reducible exact tc_int | with_reducible exact tc_kind | with_reducible exact tc_tok | with_reducible exact tc_u8s | with_reducible exact tc_toks | with_reducible exact tc_strs | with_reducible exact tc_bool | with_reducible exact tc_err | with_reducible exact tc_i64); exact rfl; exact rfl)
              | (apply w1; exact rfl; exact rfl)
              | (refine w0' ?_)
              | (apply aStore; exact rfl; exact rfl; exact rfl; exact (by first | with_reducible exact tc_bind | with_reducible exact tc_m51 | with_reducible exact tc_m68 | with_reducible exact tc_pst | with_reducible exact tc_pf | with_reducible exact tcn_int | with_reducible exact tc_nodes | with_reducible exact tc_node | with_reducible exact tc_ints | with_reducible exact tcn_kind | with_reducible exact tcn_i64 | with_reducible exact tcn_str | with_reducible exact tcn_bool | with_reducible exact tc_str | with_reducible exact tc_int | with_reducible exact tc_kind | with_reducible exact tc_tok | with_reducible exact tc_u8s | with_reducible exact tc_toks | with_reducible exact tc_strs | with_reducible exact tc_bool | with_reducible exact tc_err | with_reducible exact tc_i64); exact rfl; exact rfl; exact rfl; exact rfl)
              | (apply awp_condT; exact rfl)
              | (apply awp_condF; exact rfl)
              | (apply awp_cond; exact rfl; (intro hb); rotate_left; (intro hb); rotate_right)
              | refine awp_block ?_
              | refine awp_skip ?_
              | refine awp_ret ?_
              | refine awp_draw (by kernel_rfl) (by kernel_rfl) ?_
              | refine en_r ?_
              | refine eb_n ?_
              | refine eb_r ?_
            · omega
            · subst hb
              have hr := inS_split h (i := i + 1) hc
              injection hr with e1 e2; subst e1; subst e2
              exact mpost_ret (Fits_mk (Le_cons rfl Le_nil) (Pre_cons rfl rfl (Pre_cons rfl rfl (Pre_cons rfl rfl (Pre_cons rfl rfl (Pre_cons rfl rfl (Pre_cons rfl rfl (Pre_cons rfl rfl Pre_nil))))))) rfl rfl)
            · omega
            · subst hb
              exact fin rfl hS3 (Fits_mk (Le_cons rfl (Le_cons rfl (Le_cons rfl (Le_cons rfl (Le_cons rfl (Le_cons rfl (Le_cons rfl Le_nil))))))) (Pre_cons rfl rfl (Pre_cons rfl rfl (Pre_cons rfl rfl (Pre_cons rfl rfl (Pre_cons rfl rfl (Pre_cons rfl rfl (Pre_cons rfl rfl Pre_nil))))))) rfl rfl)
      · rw [if_pos (.inl hk)] at hst; injection hst with hst
        repeat' first
          | refine en_n ?_
          | refine awp_seq ?_
          | refine awp_region ?_
          | refine alex_nil ?_
          | refine w0 ?_
          | (apply k0u (hd := rfl); exact rfl; exact rfl)
          | (apply Y_lssT; exact rfl; exact rfl; first | assumption | omega)
          | (apply Y_neqT; exact rfl; exact rfl; first | assumption | omega)
          | (apply aJ (hd := rfl); (first | exact Co_dd rfl | exact Co_bb rfl rfl rfl | exact Co_nn rfl); exact rfl; exact (by first | with_reducible exact es_binds | with_reducible exact es_nodes | with_reducible exact es_ints | with_reducible exact es_nodess | with_reducible exact es_toks | with_reducible exact es_strs | with_reducible exact es_u8s); assumption; omega; exact fun _ => rfl)
          | (apply aAlloc (hd := rfl) (hro := rfl); exact (by first | with_reducible exact zo_m68 | with_reducible exact zo_f24 | with_reducible exact zo_node | with_reducible exact zon_int | with_reducible exact zo_tok | with_reducible exact zo_int | with_reducible exact zo_i64))
          | apply ay (hd := rfl)
          | (apply Y_move_d; exact rfl)
          | (apply Y_load_r; exact rfl; exact (by first | with_reducible exact tc_bind | with_reducible exact tc_m51 | with_reducible exact tc_m68 | with_reducible exact tc_pst | with_reducible exact tc_pf | with_reducible exact tcn_int | with_reducible exact tc_nodes | with_reducible exact tc_node | with_reducible exact tc_ints | with_reducible exact tcn_kind | with_reducible exact tcn_i64 | with_reducible exact tcn_str | with_reducible exact tcn_bool | with_reducible exact tc_str | with_reducible exact tc_int | with_reducible exact tc_kind | with_reducible exact tc_tok | with_reducible exact tc_u8s | with_reducible exact tc_toks | with_reducible exact tc_strs | with_reducible exact tc_bool | with_reducible exact tc_err | with_reducible exact tc_i64); exact rfl)
          | (apply Y_add; exact rfl; exact rfl)
          | (apply Y_pick_t; exact rfl; exact rfl)
          | (apply Y_field_p; exact rfl; exact (by first | with_reducible exact fb_0 | with_reducible exact fb_1 | with_reducible exact fs_0 | with_reducible exact fs_1 | with_reducible exact fn_0 | with_reducible exact fn_1 | with_reducible exact fn_2 | with_reducible exact fn_3 | with_reducible exact fo_0 | with_reducible exact fo_1 | with_reducible exact fo_2 | with_reducible exact fo_3))
          | (apply Y_load_p; exact rfl; exact (by first | with_reducible exact tc_bind | with_reducible exact tc_m51 | with_reducible exact tc_m68 | with_reducible exact tc_pst | with_reducible exact tc_pf | with_reducible exact tcn_int | with_reducible exact tc_nodes | with_reducible exact tc_node | with_reducible exact tc_ints | with_reducible exact tcn_kind | with_reducible exact tcn_i64 | with_reducible exact tcn_str | with_reducible exact tcn_bool | with_reducible exact tc_str | with_reducible exact tc_int | with_reducible exact tc_kind | with_reducible exact tc_tok | with_reducible exact tc_u8s | with_reducible exact tc_toks | with_reducible exact tc_strs | with_reducible exact tc_bool | with_reducible exact tc_err | with_reducible exact tc_i64); exact rfl; exact rfl)
          | (refine w0' ?_)
          | (apply aStore; exact rfl; exact rfl; exact rfl; exact (by first | with_reducible exact tc_bind | with_reducible exact tc_m51 | with_reducible exact tc_m68 | with_reducible exact tc_pst | with_reducible exact tc_pf | with_reducible exact tcn_int | with_reducible exact tc_nodes | with_reducible exact tc_node | with_reducible exact tc_ints | with_reducible exact tcn_kind | with_reducible exact tcn_i64 | with_reducible exact tcn_str | with_reducible exact tcn_bool | with_reducible exact tc_str | with_reducible exact tc_int | with_reducible exact tc_kind | with_reducible exact tc_tok | with_reducible exact tc_u8s | with_reducible exact tc_toks | with_reducible exact tc_strs | with_reducible exact tc_bool | with_reducible exact tc_err | with_reducible exact tc_i64); exact rfl; exact rfl; exact rfl; exact rfl)
          | (apply awp_condT; exact rfl)
          | refine awp_block ?_
          | refine awp_skip ?_
          | refine awp_exit ?_
          | refine en_e ?_
          | refine eb_e ?_
        · omega
        · exact fin hst hS1 (Fits_mk (Le_cons rfl (Le_cons rfl (Le_cons rfl (Le_cons rfl (Le_cons rfl (Le_cons rfl (Le_cons rfl Le_nil))))))) (Pre_cons rfl rfl (Pre_cons rfl rfl (Pre_cons rfl rfl (Pre_cons rfl rfl (Pre_cons rfl rfl (Pre_cons rfl rfl (Pre_cons rfl rfl Pre_nil))))))) rfl rfl)
    · have e : (false, S1) = (b, S') := by rw [List.take_of_length_le hge, h] at hf; injection hf with hf; exact hf.symm
      injection e with e1 e2; subst e1; subst e2
      repeat' first
        | refine en_n ?_
        | refine awp_seq ?_
        | refine awp_region ?_
        | refine alex_nil ?_
        | refine w0 ?_
        | (apply Y_lssF; exact rfl; exact rfl; first | assumption | omega)
        | apply ay (hd := rfl)
        | (apply Y_assign_d; exact rfl)
        | (apply awp_condF; exact rfl)
        | refine awp_ret ?_
        | refine awp_exit ?_
        | refine en_e ?_
        | refine eb_e ?_
      exact mpost_ret (Fits_mk (Le_cons rfl Le_nil) (Pre_cons rfl rfl (Pre_cons rfl rfl (Pre_cons rfl rfl (Pre_cons rfl rfl (Pre_cons rfl rfl (Pre_cons rfl rfl (Pre_cons rfl rfl Pre_nil))))))) rfl rfl)

set_option maxHeartbeats 8000000 in
theorem part_ok (nx : Int) (L : Sto) (v : Int) (hL : ∀ p ∈ L, p.2.length ≤ 1000000) (n : Nat) (t : List Nd) (b : Bool) (S' : Seen) (ht : t.length ≤ 1000000) (h : inF n L v t [] = some (b, S')) :
    MCall Tryz.prog 68 [.ptr 0 0, .d (i64 v), .d (nodes t)] (stO nx L) (.d (bl b)) (stO nx L) := by
  refine mcall_of Tryz.func68 rfl Tryz.ntmps68 Tryz.results68 rfl rfl rfl ?_
  intro wb St0 X fx
  have hc := part1_ok nx L v hL n t [] b S' (fun a w h => by cases h) ht h
  repeat' first
    | refine en_n ?_
    | refine awp_seq ?_
    | refine awp_region ?_
    | refine alex_nil ?_
    | refine w0 ?_
    | (apply aMakeMapI (hd := rfl) (hro := rfl); (with_reducible exact mt_68); (with_reducible exact ut_i64))
    | (refine aMClo [5, 3, 6, 2, 0, 1, 4] [0, 1, 2, 3] rfl rfl hb_part1 (hc) rfl ?_ rfl rfl (by decide) rfl rfl rfl rfl rfl rfl ?_; (repeat (refine SArgs_cons rfl ?_)); exact SArgs_nil)
    | (apply aBox (hd := rfl) (hro := rfl); exact rfl; exact rfl)
    | (apply aAlloc (hd := rfl) (hro := rfl); exact (by first | with_reducible exact zo_m68 | with_reducible exact zo_f24 | with_reducible exact zo_node | with_reducible exact zon_int | with_reducible exact zo_tok | with_reducible exact zo_int | with_reducible exact zo_i64))
    | apply ay (hd := rfl)
    | (apply Y_move_d; exact rfl)
    | (apply Y_assign_d; exact rfl)
    | (apply Y_load_p; exact rfl; exact (by first | with_reducible exact tc_bind | with_reducible exact tc_m51 | with_reducible exact tc_m68 | with_reducible exact tc_pst | with_reducible exact tc_pf | with_reducible exact tcn_int | with_reducible exact tc_nodes | with_reducible exact tc_node | with_reducible exact tc_ints | with_reducible exact tcn_kind | with_reducible exact tcn_i64 | with_reducible exact tcn_str | with_reducible exact tcn_bool | with_reducible exact tc_str | with_reducible exact tc_int | with_reducible exact tc_kind | with_reducible exact tc_tok | with_reducible exact tc_u8s | with_reducible exact tc_toks | with_reducible exact tc_strs | with_reducible exact tc_bool | with_reducible exact tc_err | with_reducible exact tc_i64); exact rfl; exact rfl)
    | (apply Y_mkf; exact rfl)
    | (refine w0' ?_)
    | (apply aStore; exact rfl; exact rfl; exact rfl; exact (by first | with_reducible exact tc_bind | with_reducible exact tc_m51 | with_reducible exact tc_m68 | with_reducible exact tc_pst | with_reducible exact tc_pf | with_reducible exact tcn_int | with_reducible exact tc_nodes | with_reducible exact tc_node | with_reducible exact tc_ints | with_reducible exact tcn_kind | with_reducible exact tcn_i64 | with_reducible exact tcn_str | with_reducible exact tcn_bool | with_reducible exact tc_str | with_reducible exact tc_int | with_reducible exact tc_kind | with_reducible exact tc_tok | with_reducible exact tc_u8s | with_reducible exact tc_toks | with_reducible exact tc_strs | with_reducible exact tc_bool | with_reducible exact tc_err | with_reducible exact tc_i64); exact rfl; exact rfl; exact rfl; exact rfl)
    | refine awp_ret ?_
  exact mpost_ret (Fits_mk (Le_cons rfl Le_nil) (Pre_cons rfl rfl (Pre_cons rfl rfl Pre_nil)) rfl rfl)
end Go.Proofs.YtamhkcnpocdfcaaGreatDoor
/- The statements on types: the walk of same. -/
namespace Go.Proofs.YtamhkcnpocdfcaaGreatDoor
open Go.Sx
def kidS (n : Nat) (a b : List Nd) (p : Int × Sto) (i : Nat) : Option (Int × Sto) :=
  if p.1 ≠ 0 then some p else
    match (kidsF a 0)[i]?, (kidsF b 0)[i]? with
    | some k, some l => (match cutO a k (endF a k), cutO b l (endF b l) with
      | some u, some v => sameF n p.2 u v
      | _, _ => none)
    | _, _ => none
theorem sameF_succ (n : Nat) (L : Sto) (a0 b0 : List Nd) : sameF (n + 1) L a0 b0 = match headF n L a0, headF n L b0 with
    | some a, some b => match a[0]?, b[0]? with
      | some x, some y =>
        if a.length > 4000 ∨ b.length > 4000 then none
        else if x.kind = 31 ∧ y.kind = 31 then (if x.num ≠ y.num then some (0, putA L (max x.num y.num) (varN (min x.num y.num))) else some (0, L))
        else if y.kind = 31 then sameF n L b a
        else if x.kind = 31 then (match inF n L x.num b [] with
          | some (true, _) => some (91, L)
          | some (false, _) => some (0, putA L x.num b)
          | none => none)
        else if x ≠ y then some (91, L)
        else foldO (kidS n a b) (0, L) (List.range (kidsF a 0).length)
      | _, _ => none
    | _, _ => none := rfl
def StoB (L : Sto) : Prop := ∀ p ∈ L, p.2.length ≤ 1000000
theorem putA_mem {β : Type} : ∀ {L : List (Int × β)} {a : Int} {d : β} {p : Int × β}, p ∈ putA L a d → p ∈ L ∨ p = (a, d)
  | [], a, d, p, h => by simp [putA] at h; exact .inr h
  | (k, e) :: r, a, d, p, h => by
    unfold putA at h
    split at h
    · rename_i hk; subst hk
      rcases List.mem_cons.1 h with h | h
      · exact .inr h
      · exact .inl (by simp [h])
    · rcases List.mem_cons.1 h with h | h
      · exact .inl (by simp [h])
      · rcases putA_mem h with h | h
        · exact .inl (by simp [h])
        · exact .inr h
theorem StoB.put {L : Sto} (h : StoB L) {a : Int} {t : List Nd} (ht : t.length ≤ 1000000) : StoB (putA L a t) := fun p hp => by
  rcases putA_mem hp with h1 | h1
  · exact h p h1
  · rw [h1]; exact ht
theorem sameF_bd : ∀ (n : Nat) (L : Sto) (a b : List Nd) (r : Int × Sto), StoB L → sameF n L a b = some r → StoB r.2
  | 0, _, _, _, _, _, h => by cases h
  | n + 1, L, a0, b0, r, hL, h => by
    have ih := sameF_bd n
    rw [sameF_succ] at h
    split at h
    · rename_i a b _ _
      split at h
      · rename_i x y _ _
        split at h
        · cases h
        · split at h
          · split at h
            · injection h with h; subst h; exact hL.put (by simp [varN])
            · injection h with h; subst h; exact hL
          · split at h
            · exact ih _ _ _ _ hL h
            · split at h
              · split at h
                · injection h with h; subst h; exact hL
                · injection h with h; subst h; exact hL.put (by omega)
                · cases h
              · split at h
                · injection h with h; subst h; exact hL
                · refine foldO_inv (J := fun p : Int × Sto => StoB p.2) (fun p i c hp hc => ?_) hL h
                  unfold kidS at hc
                  split at hc
                  · injection hc with hc; subst hc; exact hp
                  · split at hc
                    · split at hc
                      · exact ih _ _ _ _ hp hc
                      · cases hc
                    · cases hc
      · cases h
    · cases h

theorem Y_idx0 {P : Program} {η : List Ob} {σ : Sl} {dst : Option Nat} {ty : TypeId} {pos : String} {after : Array Edge} {gd : Option (Nat × Bool)} {t : TypeId} {p q : Operand} {a : List Nd} {x : Nd} (hx : a[0]? = some x) (hp : oval σ p = .d (nodes a)) (hq : oval σ q = .d (i64 0)) (hs : elemSize P t = some 4) :
    Ylds P η σ ⟨dst, .indexAddr t p q, ty, pos, after, gd⟩ (.rptr x.av.flat) :=
  Y_indexC (xs := a.map Nd.av) (Co_dd hp) hq hs (by simp) (by show (a.map Nd.av)[(0 : Int).toNat]? = _; rw [Int.toNat_zero, List.getElem?_map, hx]; rfl) (fun d hd => by obtain ⟨v, _, rfl⟩ := List.mem_map.1 hd; rfl)
theorem Y_kidat {P : Program} {η : List Ob} {σ : Sl} {dst : Option Nat} {ty : TypeId} {pos : String} {after : Array Edge} {gd : Option (Nat × Bool)} {t : TypeId} {p q : Operand} {A : List Int} {i : Nat} {k : Int} (hk : A[i]? = some k) (hp : oval σ p = .d (nints A)) (hq : oval σ q = .d (i64 (i : Int))) (hs : elemSize P t = some 1) :
    Ylds P η σ ⟨dst, .indexAddr t p q, ty, pos, after, gd⟩ (.rptr (ival k).flat) :=
  Y_indexC (xs := A.map ival) (Co_dd hp) hq hs (by omega) (by show (A.map ival)[((i : Int)).toNat]? = _; rw [Int.toNat_natCast, List.getElem?_map, hk]; rfl) (fun d hd => by obtain ⟨v, _, rfl⟩ := List.mem_map.1 hd; rfl)
theorem Y_cut {P : Program} {η : List Ob} {σ : Sl} {dst : Option Nat} {ty : TypeId} {pos : String} {after : Array Edge} {gd : Option (Nat × Bool)} {t : TypeId} {p q r : Operand} {A u : List Nd} {k l : Int} (hu : cutO A k l = some u) (hp : oval σ p = .d (nodes A)) (hq : oval σ q = .d (i64 k)) (hr : oval σ r = .d (i64 l)) (hs : elemSize P t = some 4) :
    Ylds P η σ ⟨dst, .slice t p (some q) (some r) none, ty, pos, after, gd⟩ (.d (nodes u)) := by
  unfold cutO at hu
  split at hu
  · rename_i h
    injection hu with hu; subst hu
    exact Y_sl (enc := Nd.av) (Co_dd hp) hs hq hr (fun _ => rfl) h
  · cases hu
theorem kids_len (L : List Nd) (a : Int) : (kidsF L a).length ≤ L.length := by
  by_cases h : endF L a < 0
  · rw [kidsF, if_pos h]; simp
  · obtain ⟨k, x, _, _, h1, h2, _, _, h3⟩ := kid_at h
    rw [h3, List.length_map, List.length_range]; omega
theorem Y_nd_neqT {η : List Ob} {σ : Sl} {dst : Option Nat} {ty : TypeId} {pos : String} {after : Array Edge} {gd : Option (Nat × Bool)} {x y : Operand} {yt : TypeId} {a b : Nd} (h : a ≠ b) (hx : oval σ x = .d a.av) (hy : oval σ y = .d b.av) :
    Ylds Tryz.prog η σ ⟨dst, .binOp .neq 41 x y yt, ty, pos, after, gd⟩ (.d (.val (.bool true))) := by
  have := Y_nd_neq (η := η) (dst := dst) (ty := ty) (pos := pos) (after := after) (gd := gd) (yt := yt) hx hy
  rwa [decide_eq_true h] at this
theorem Y_nd_neqF {η : List Ob} {σ : Sl} {dst : Option Nat} {ty : TypeId} {pos : String} {after : Array Edge} {gd : Option (Nat × Bool)} {x y : Operand} {yt : TypeId} {a b : Nd} (h : a = b) (hx : oval σ x = .d a.av) (hy : oval σ y = .d b.av) :
    Ylds Tryz.prog η σ ⟨dst, .binOp .neq 41 x y yt, ty, pos, after, gd⟩ (.d (.val (.bool false))) := by
  have := Y_nd_neq (η := η) (dst := dst) (ty := ty) (pos := pos) (after := after) (gd := gd) (yt := yt) hx hy
  rwa [decide_eq_false (by simp [h])] at this
theorem foldO_app {α β : Type} {f : β → α → Option β} : ∀ (L1 L2 : List α) (b : β), foldO f b (L1 ++ L2) = (foldO f b L1).bind fun c => foldO f c L2
  | [], L2, b => rfl
  | x :: L1, L2, b => by
    simp only [List.cons_append, foldO]
    cases f b x with
    | none => rfl
    | some c => exact foldO_app L1 L2 c
theorem foldO_stay {α β : Type} {f : β → α → Option β} {c : β} (h : ∀ x, f c x = some c) : ∀ L : List α, foldO f c L = some c
  | [] => rfl
  | x :: L => by simp only [foldO, h]; exact foldO_stay h L
theorem foldO_cut {α β : Type} {f : β → α → Option β} {L : List α} {b c r : β} {i : Nat} (h : ∀ x, f c x = some c) (hc : foldO f b (L.take i) = some c) (hr : foldO f b L = some r) : r = c := by
  rw [← List.take_append_drop i L, foldO_app, hc, Option.bind_some, foldO_stay h] at hr
  injection hr with hr; exact hr.symm
theorem kid_eq {n : Nat} {a b : List Nd} {S : Sto} {i : Nat} {c : Int × Sto} (h : kidS n a b (0, S) i = some c) : ∃ k l u v, (kidsF a 0)[i]? = some k ∧ (kidsF b 0)[i]? = some l ∧ cutO a k (endF a k) = some u ∧ cutO b l (endF b l) = some v ∧ sameF n S u v = some c := by
  unfold kidS at h
  simp only [ne_eq, not_true, if_false] at h
  split at h
  · rename_i k l hk hl
    split at h
    · rename_i u v hu hv
      exact ⟨k, l, u, v, hk, hl, hu, hv, h⟩
    · cases h
  · cases h

attribute [local irreducible] hasBody Program.underlying Ylds astep alex alexE alexD awp PCall FCall RCall MCall QCall athen ablock ajump rpost fpost mpost rpostC
abbrev zsN : List Value := [.int .i64 0, .string ByteArray.empty, .int .i64 0, .int .i64 0]
def ndC (x : Nd) : List SV := [.d (i64 x.kind), .d (.val (.string ⟨x.text.toArray⟩)), .d (i64 x.num), .d (i64 x.kids)]

set_option maxHeartbeats 8000000 in
theorem same_ok (nx : Int) : ∀ (n : Nat) (L : Sto) (a0 b0 : List Nd) (e : Int) (L' : Sto), StoB L → sameF n L a0 b0 = some (e, L') →
    MCall Tryz.prog 46 [.ptr 0 0, .d (nodes a0), .d (nodes b0)] (stO nx L) (.d (i64 e)) (stO nx L')
  | 0, _, _, _, _, _, _, h => by cases h
  | n + 1, L, a0, b0, e, L', hL, h => by
    have ih := same_ok nx n
    rw [sameF_succ] at h
    split at h
    · rename_i a b ha hb0
      split at h
      · rename_i x y hx hy
        split at h
        · cases h
        · rename_i hlen
          have hla : a.length ≤ 2000000 := by omega
          have hlb : b.length ≤ 2000000 := by omega
          have hhA := head_ok nx L n a0 a ha
          have hhB := head_ok nx L n b0 b hb0
          refine mcall_of Tryz.func46 rfl Tryz.ntmps46 Tryz.results46 rfl rfl rfl ?_
          intro wb St0 X fx
          split at h
          · rename_i hk
            obtain ⟨hk1, hk2⟩ := hk
            split at h
            · rename_i hne
              injection h with h; injection h with h1 h2; subst h1; subst h2
              repeat' first
                | (refine awp_drawP (id := 2) [.y (.d (nodes a)), .y (.rptr x.av.flat), .y (.d (.agg (x.av.flat.take 4))), .y (.d (nodes b)), .y (.rptr y.av.flat), .y (.d (.agg (y.av.flat.take 4))), .mk ⟨7, zsN, 41, ndC x⟩ (some 8), .mk ⟨8, zsN, 41, zsN.map cst⟩ none, .st 6 ⟨7, zsN, 41, ndC x⟩] (by kernel_rfl) (by kernel_rfl) (.inr (by kernel_rfl)) ⟨⟨rfl, Y_move_d rfl⟩, rfl, ⟨rfl, Y_idx0 hx rfl rfl es_nodes⟩, rfl, ⟨rfl, Y_load_r rfl tc_node rfl⟩, rfl, ⟨rfl, Y_move_d rfl⟩, rfl, ⟨rfl, Y_idx0 hy rfl rfl es_nodes⟩, rfl, ⟨rfl, Y_load_r rfl tc_node rfl⟩, rfl, ⟨rfl, rfl, rfl, zo_node, by kernel_rfl, rfl⟩, rfl, ⟨rfl, rfl, rfl, zo_node, by kernel_rfl, rfl⟩, rfl, ⟨⟨_, _, _, _, _, rfl, rfl, rfl, tc_node, rfl⟩, rfl, rfl, rfl, rfl, rfl⟩, trivial⟩ ?_)
                | refine en_n ?_
                | refine awp_seq ?_
                | refine awp_region ?_
                | refine alex_nil ?_
                | refine w0 ?_
                | (refine a_bar (by kernel_rfl) ?_; apply aStore; exact rfl; exact rfl; exact rfl; (with_reducible exact tc_node); exact rfl; exact rfl; exact rfl; exact rfl)
                | (apply Y_eqlT; exact rfl; exact rfl; first | assumption | omega)
                | (apply Y_neqT; exact rfl; exact rfl; first | assumption | omega)
                | (apply Y_nilc_p; exact rfl)
                | (refine Y_qcall [0, 1] [] rfl rfl hb_head (hhA) rfl ?_ rfl (by decide) rfl rfl rfl rfl; (repeat (refine SArgs_cons rfl ?_)); exact SArgs_nil)
                | (refine Y_qcall [0, 1] [] rfl rfl hb_head (hhB) rfl ?_ rfl (by decide) rfl rfl rfl rfl; (repeat (refine SArgs_cons rfl ?_)); exact SArgs_nil)
                | (apply Y_max; exact rfl; exact rfl)
                | (apply Y_min; exact rfl; exact rfl)
                | (apply Y_call (hb := hb_variable) (hc := variable_ok (min x.num y.num)))
                | (refine a_bar (by kernel_rfl) ?_; apply aMapPutV; exact putK_enc nodes L (max x.num y.num) (varN (min x.num y.num)); exact rfl; exact rfl; exact rfl; exact Co_dd rfl; (with_reducible exact mt_51); (with_reducible exact ut_int); exact rfl)
                | apply ay (hd := rfl)
                | (apply Y_move_d; exact rfl)
                | (apply Y_assign_d; exact rfl)
                | (apply Y_pick_t; exact rfl; exact rfl)
                | (apply Y_move_ptr; exact rfl)
                | (apply Y_field_p; exact rfl; exact (by first | with_reducible exact fb_0 | with_reducible exact fb_1 | with_reducible exact fs_0 | with_reducible exact fs_1 | with_reducible exact fn_0 | with_reducible exact fn_1 | with_reducible exact fn_2 | with_reducible exact fn_3 | with_reducible exact fo_0 | with_reducible exact fo_1 | with_reducible exact fo_2 | with_reducible exact fo_3))
                | (apply Y_load_p; exact rfl; exact (by first | with_reducible exact tc_bind | with_reducible exact tc_m51 | with_reducible exact tc_m68 | with_reducible exact tc_pst | with_reducible exact tc_pf | with_reducible exact tcn_int | with_reducible exact tc_nodes | with_reducible exact tc_node | with_reducible exact tc_ints | with_reducible exact tcn_kind | with_reducible exact tcn_i64 | with_reducible exact tcn_str | with_reducible exact tcn_bool | with_reducible exact tc_str | with_reducible exact tc_int | with_reducible exact tc_kind | with_reducible exact tc_tok | with_reducible exact tc_u8s | with_reducible exact tc_toks | with_reducible exact tc_strs | with_reducible exact tc_bool | with_reducible exact tc_err | with_reducible exact tc_i64); exact rfl; exact rfl)
                | (apply w1; exact rfl; exact rfl)
                | (refine w0' ?_)
                | (apply awp_condT; exact rfl)
                | refine awp_block ?_
                | refine awp_ret ?_
                | refine awp_draw (by kernel_rfl) (by kernel_rfl) ?_
                | refine en_r ?_
                | refine eb_r ?_
                | exact CoL_nil
                | refine CoL_d rfl ?_
              exact mpost_ret (Fits_mk (Le_cons rfl Le_nil) (Pre_cons rfl rfl (Pre_cons rfl rfl Pre_nil)) rfl rfl)
            · rename_i hne
              have hne : x.num = y.num := Classical.byContradiction hne
              injection h with h; injection h with h1 h2; subst h1; subst h2
              repeat' first
                | (refine awp_drawP (id := 2) [.y (.d (nodes a)), .y (.rptr x.av.flat), .y (.d (.agg (x.av.flat.take 4))), .y (.d (nodes b)), .y (.rptr y.av.flat), .y (.d (.agg (y.av.flat.take 4))), .mk ⟨7, zsN, 41, ndC x⟩ (some 8), .mk ⟨8, zsN, 41, zsN.map cst⟩ none, .st 6 ⟨7, zsN, 41, ndC x⟩] (by kernel_rfl) (by kernel_rfl) (.inr (by kernel_rfl)) ⟨⟨rfl, Y_move_d rfl⟩, rfl, ⟨rfl, Y_idx0 hx rfl rfl es_nodes⟩, rfl, ⟨rfl, Y_load_r rfl tc_node rfl⟩, rfl, ⟨rfl, Y_move_d rfl⟩, rfl, ⟨rfl, Y_idx0 hy rfl rfl es_nodes⟩, rfl, ⟨rfl, Y_load_r rfl tc_node rfl⟩, rfl, ⟨rfl, rfl, rfl, zo_node, by kernel_rfl, rfl⟩, rfl, ⟨rfl, rfl, rfl, zo_node, by kernel_rfl, rfl⟩, rfl, ⟨⟨_, _, _, _, _, rfl, rfl, rfl, tc_node, rfl⟩, rfl, rfl, rfl, rfl, rfl⟩, trivial⟩ ?_)
                | refine en_n ?_
                | refine awp_seq ?_
                | refine awp_region ?_
                | refine alex_nil ?_
                | refine w0 ?_
                | (refine a_bar (by kernel_rfl) ?_; apply aStore; exact rfl; exact rfl; exact rfl; (with_reducible exact tc_node); exact rfl; exact rfl; exact rfl; exact rfl)
                | (apply Y_eqlT; exact rfl; exact rfl; first | assumption | omega)
                | (apply Y_neqF; exact rfl; exact rfl; first | assumption | omega)
                | (refine Y_qcall [0, 1] [] rfl rfl hb_head (hhA) rfl ?_ rfl (by decide) rfl rfl rfl rfl; (repeat (refine SArgs_cons rfl ?_)); exact SArgs_nil)
                | (refine Y_qcall [0, 1] [] rfl rfl hb_head (hhB) rfl ?_ rfl (by decide) rfl rfl rfl rfl; (repeat (refine SArgs_cons rfl ?_)); exact SArgs_nil)
                | apply ay (hd := rfl)
                | (apply Y_move_d; exact rfl)
                | (apply Y_assign_d; exact rfl)
                | (apply Y_pick_t; exact rfl; exact rfl)
                | (apply Y_move_ptr; exact rfl)
                | (apply Y_field_p; exact rfl; exact (by first | with_reducible exact fb_0 | with_reducible exact fb_1 | with_reducible exact fs_0 | with_reducible exact fs_1 | with_reducible exact fn_0 | with_reducible exact fn_1 | with_reducible exact fn_2 | with_reducible exact fn_3 | with_reducible exact fo_0 | with_reducible exact fo_1 | with_reducible exact fo_2 | with_reducible exact fo_3))
                | (apply Y_load_p; exact rfl; exact (by first | with_reducible exact tc_bind | with_reducible exact tc_m51 | with_reducible exact tc_m68 | with_reducible exact tc_pst | with_reducible exact tc_pf | with_reducible exact tcn_int | with_reducible exact tc_nodes | with_reducible exact tc_node | with_reducible exact tc_ints | with_reducible exact tcn_kind | with_reducible exact tcn_i64 | with_reducible exact tcn_str | with_reducible exact tcn_bool | with_reducible exact tc_str | with_reducible exact tc_int | with_reducible exact tc_kind | with_reducible exact tc_tok | with_reducible exact tc_u8s | with_reducible exact tc_toks | with_reducible exact tc_strs | with_reducible exact tc_bool | with_reducible exact tc_err | with_reducible exact tc_i64); exact rfl; exact rfl)
                | (apply w1; exact rfl; exact rfl)
                | (refine w0' ?_)
                | (apply awp_condT; exact rfl)
                | (apply awp_condF; exact rfl)
                | refine awp_block ?_
                | refine awp_skip ?_
                | refine awp_ret ?_
                | refine en_r ?_
                | refine eb_r ?_
              exact mpost_ret (Fits_mk (Le_cons rfl Le_nil) (Pre_cons rfl rfl (Pre_cons rfl rfl Pre_nil)) rfl rfl)
          · rename_i hk
            split at h
            · rename_i hk2
              have hk1 : x.kind ≠ 31 := fun e => hk ⟨e, hk2⟩
              have hih := ih L b a e L' hL h
              repeat' first
                | (refine awp_drawP (id := 2) [.y (.d (nodes a)), .y (.rptr x.av.flat), .y (.d (.agg (x.av.flat.take 4))), .y (.d (nodes b)), .y (.rptr y.av.flat), .y (.d (.agg (y.av.flat.take 4))), .mk ⟨7, zsN, 41, ndC x⟩ (some 8), .mk ⟨8, zsN, 41, zsN.map cst⟩ none, .st 6 ⟨7, zsN, 41, ndC x⟩] (by kernel_rfl) (by kernel_rfl) (.inr (by kernel_rfl)) ⟨⟨rfl, Y_move_d rfl⟩, rfl, ⟨rfl, Y_idx0 hx rfl rfl es_nodes⟩, rfl, ⟨rfl, Y_load_r rfl tc_node rfl⟩, rfl, ⟨rfl, Y_move_d rfl⟩, rfl, ⟨rfl, Y_idx0 hy rfl rfl es_nodes⟩, rfl, ⟨rfl, Y_load_r rfl tc_node rfl⟩, rfl, ⟨rfl, rfl, rfl, zo_node, by kernel_rfl, rfl⟩, rfl, ⟨rfl, rfl, rfl, zo_node, by kernel_rfl, rfl⟩, rfl, ⟨⟨_, _, _, _, _, rfl, rfl, rfl, tc_node, rfl⟩, rfl, rfl, rfl, rfl, rfl⟩, trivial⟩ ?_)
                | refine en_n ?_
                | refine awp_seq ?_
                | refine awp_region ?_
                | refine alex_nil ?_
                | refine w0 ?_
                | (refine a_bar (by kernel_rfl) ?_; apply aStore; exact rfl; exact rfl; exact rfl; (with_reducible exact tc_node); exact rfl; exact rfl; exact rfl; exact rfl)
                | (apply k1u (hd := rfl); exact rfl; exact rfl)
                | (apply Y_eqlT; exact rfl; exact rfl; first | assumption | omega)
                | (apply Y_eqlF; exact rfl; exact rfl; first | assumption | omega)
                | (refine Y_qcall [0, 1] [] rfl rfl hb_head (hhA) rfl ?_ rfl (by decide) rfl rfl rfl rfl; (repeat (refine SArgs_cons rfl ?_)); exact SArgs_nil)
                | (refine Y_qcall [0, 1] [] rfl rfl hb_head (hhB) rfl ?_ rfl (by decide) rfl rfl rfl rfl; (repeat (refine SArgs_cons rfl ?_)); exact SArgs_nil)
                | (refine aMCall [0, 1] hb_same (hih) ?_ rfl rfl (by decide) rfl rfl rfl rfl rfl rfl ?_; (repeat (refine SArgs_cons rfl ?_)); exact SArgs_nil)
                | apply ay (hd := rfl)
                | (apply Y_move_d; exact rfl)
                | (apply Y_assign_d; exact rfl)
                | (apply Y_pick_f; exact rfl; exact rfl)
                | (apply Y_move_ptr; exact rfl)
                | (apply Y_field_p; exact rfl; exact (by first | with_reducible exact fb_0 | with_reducible exact fb_1 | with_reducible exact fs_0 | with_reducible exact fs_1 | with_reducible exact fn_0 | with_reducible exact fn_1 | with_reducible exact fn_2 | with_reducible exact fn_3 | with_reducible exact fo_0 | with_reducible exact fo_1 | with_reducible exact fo_2 | with_reducible exact fo_3))
                | (apply Y_load_p; exact rfl; exact (by first | with_reducible exact tc_bind | with_reducible exact tc_m51 | with_reducible exact tc_m68 | with_reducible exact tc_pst | with_reducible exact tc_pf | with_reducible exact tcn_int | with_reducible exact tc_nodes | with_reducible exact tc_node | with_reducible exact tc_ints | with_reducible exact tcn_kind | with_reducible exact tcn_i64 | with_reducible exact tcn_str | with_reducible exact tcn_bool | with_reducible exact tc_str | with_reducible exact tc_int | with_reducible exact tc_kind | with_reducible exact tc_tok | with_reducible exact tc_u8s | with_reducible exact tc_toks | with_reducible exact tc_strs | with_reducible exact tc_bool | with_reducible exact tc_err | with_reducible exact tc_i64); exact rfl; exact rfl)
                | (refine w0' ?_)
                | (apply awp_condT; exact rfl)
                | (apply awp_condF; exact rfl)
                | refine awp_block ?_
                | refine awp_ret ?_
                | refine en_r ?_
                | refine eb_r ?_
              exact mpost_ret (Fits_mk (Le_cons rfl Le_nil) (Pre_cons rfl rfl (Pre_cons rfl rfl Pre_nil)) rfl rfl)
            · rename_i hk2
              split at h
              · rename_i hk1
                split at h
                · rename_i S1 hin
                  injection h with h; injection h with h1 h2; subst h1; subst h2
                  have hp := part_ok nx L x.num hL n b true S1 (by omega) hin
                  repeat' first
                    | (refine awp_drawP (id := 2) [.y (.d (nodes a)), .y (.rptr x.av.flat), .y (.d (.agg (x.av.flat.take 4))), .y (.d (nodes b)), .y (.rptr y.av.flat), .y (.d (.agg (y.av.flat.take 4))), .mk ⟨7, zsN, 41, ndC x⟩ (some 8), .mk ⟨8, zsN, 41, zsN.map cst⟩ none, .st 6 ⟨7, zsN, 41, ndC x⟩] (by kernel_rfl) (by kernel_rfl) (.inr (by kernel_rfl)) ⟨⟨rfl, Y_move_d rfl⟩, rfl, ⟨rfl, Y_idx0 hx rfl rfl es_nodes⟩, rfl, ⟨rfl, Y_load_r rfl tc_node rfl⟩, rfl, ⟨rfl, Y_move_d rfl⟩, rfl, ⟨rfl, Y_idx0 hy rfl rfl es_nodes⟩, rfl, ⟨rfl, Y_load_r rfl tc_node rfl⟩, rfl, ⟨rfl, rfl, rfl, zo_node, by kernel_rfl, rfl⟩, rfl, ⟨rfl, rfl, rfl, zo_node, by kernel_rfl, rfl⟩, rfl, ⟨⟨_, _, _, _, _, rfl, rfl, rfl, tc_node, rfl⟩, rfl, rfl, rfl, rfl, rfl⟩, trivial⟩ ?_)
                    | refine en_n ?_
                    | refine awp_seq ?_
                    | refine awp_region ?_
                    | refine alex_nil ?_
                    | refine w0 ?_
                    | (refine a_bar (by kernel_rfl) ?_; apply aStore; exact rfl; exact rfl; exact rfl; (with_reducible exact tc_node); exact rfl; exact rfl; exact rfl; exact rfl)
                    | (apply Y_eqlT; exact rfl; exact rfl; first | assumption | omega)
                    | (apply Y_eqlF; exact rfl; exact rfl; first | assumption | omega)
                    | (refine Y_qcall [0, 1] [] rfl rfl hb_head (hhA) rfl ?_ rfl (by decide) rfl rfl rfl rfl; (repeat (refine SArgs_cons rfl ?_)); exact SArgs_nil)
                    | (refine Y_qcall [0, 1] [] rfl rfl hb_head (hhB) rfl ?_ rfl (by decide) rfl rfl rfl rfl; (repeat (refine SArgs_cons rfl ?_)); exact SArgs_nil)
                    | (refine aMCall [0, 1] hb_part (hp) ?_ rfl rfl (by decide) rfl rfl rfl rfl rfl rfl ?_; (repeat (refine SArgs_cons rfl ?_)); exact SArgs_nil)
                    | apply ay (hd := rfl)
                    | (apply Y_move_d; exact rfl)
                    | (apply Y_assign_d; exact rfl)
                    | (apply Y_pick_t; exact rfl; exact rfl)
                    | (apply Y_move_ptr; exact rfl)
                    | (apply Y_field_p; exact rfl; exact (by first | with_reducible exact fb_0 | with_reducible exact fb_1 | with_reducible exact fs_0 | with_reducible exact fs_1 | with_reducible exact fn_0 | with_reducible exact fn_1 | with_reducible exact fn_2 | with_reducible exact fn_3 | with_reducible exact fo_0 | with_reducible exact fo_1 | with_reducible exact fo_2 | with_reducible exact fo_3))
                    | (apply Y_load_p; exact rfl; exact (by first | with_reducible exact tc_bind | with_reducible exact tc_m51 | with_reducible exact tc_m68 | with_reducible exact tc_pst | with_reducible exact tc_pf | with_reducible exact tcn_int | with_reducible exact tc_nodes | with_reducible exact tc_node | with_reducible exact tc_ints | with_reducible exact tcn_kind | with_reducible exact tcn_i64 | with_reducible exact tcn_str | with_reducible exact tcn_bool | with_reducible exact tc_str | with_reducible exact tc_int | with_reducible exact tc_kind | with_reducible exact tc_tok | with_reducible exact tc_u8s | with_reducible exact tc_toks | with_reducible exact tc_strs | with_reducible exact tc_bool | with_reducible exact tc_err | with_reducible exact tc_i64); exact rfl; exact rfl)
                    | (apply w1; exact rfl; exact rfl)
                    | (refine w0' ?_)
                    | (apply awp_condT; exact rfl)
                    | (apply awp_condF; exact rfl)
                    | refine awp_block ?_
                    | refine awp_ret ?_
                    | refine en_r ?_
                    | refine eb_r ?_
                  exact mpost_ret (Fits_mk (Le_cons rfl Le_nil) (Pre_cons rfl rfl (Pre_cons rfl rfl Pre_nil)) rfl rfl)
                · rename_i S1 hin
                  injection h with h; injection h with h1 h2; subst h1; subst h2
                  have hp := part_ok nx L x.num hL n b false S1 (by omega) hin
                  repeat' first
                    | (refine awp_drawP (id := 2) [.y (.d (nodes a)), .y (.rptr x.av.flat), .y (.d (.agg (x.av.flat.take 4))), .y (.d (nodes b)), .y (.rptr y.av.flat), .y (.d (.agg (y.av.flat.take 4))), .mk ⟨7, zsN, 41, ndC x⟩ (some 8), .mk ⟨8, zsN, 41, zsN.map cst⟩ none, .st 6 ⟨7, zsN, 41, ndC x⟩] (by kernel_rfl) (by kernel_rfl) (.inr (by kernel_rfl)) ⟨⟨rfl, Y_move_d rfl⟩, rfl, ⟨rfl, Y_idx0 hx rfl rfl es_nodes⟩, rfl, ⟨rfl, Y_load_r rfl tc_node rfl⟩, rfl, ⟨rfl, Y_move_d rfl⟩, rfl, ⟨rfl, Y_idx0 hy rfl rfl es_nodes⟩, rfl, ⟨rfl, Y_load_r rfl tc_node rfl⟩, rfl, ⟨rfl, rfl, rfl, zo_node, by kernel_rfl, rfl⟩, rfl, ⟨rfl, rfl, rfl, zo_node, by kernel_rfl, rfl⟩, rfl, ⟨⟨_, _, _, _, _, rfl, rfl, rfl, tc_node, rfl⟩, rfl, rfl, rfl, rfl, rfl⟩, trivial⟩ ?_)
                    | refine en_n ?_
                    | refine awp_seq ?_
                    | refine awp_region ?_
                    | refine alex_nil ?_
                    | refine w0 ?_
                    | (refine a_bar (by kernel_rfl) ?_; apply aStore; exact rfl; exact rfl; exact rfl; (with_reducible exact tc_node); exact rfl; exact rfl; exact rfl; exact rfl)
                    | (apply Y_eqlT; exact rfl; exact rfl; first | assumption | omega)
                    | (apply Y_eqlF; exact rfl; exact rfl; first | assumption | omega)
                    | (apply Y_nilc_p; exact rfl)
                    | (refine Y_qcall [0, 1] [] rfl rfl hb_head (hhA) rfl ?_ rfl (by decide) rfl rfl rfl rfl; (repeat (refine SArgs_cons rfl ?_)); exact SArgs_nil)
                    | (refine Y_qcall [0, 1] [] rfl rfl hb_head (hhB) rfl ?_ rfl (by decide) rfl rfl rfl rfl; (repeat (refine SArgs_cons rfl ?_)); exact SArgs_nil)
                    | (refine aMCall [0, 1] hb_part (hp) ?_ rfl rfl (by decide) rfl rfl rfl rfl rfl rfl ?_; (repeat (refine SArgs_cons rfl ?_)); exact SArgs_nil)
                    | (refine a_bar (by kernel_rfl) ?_; apply aMapPutV; exact putK_enc nodes L x.num b; exact rfl; exact rfl; exact rfl; exact Co_dd rfl; (with_reducible exact mt_51); (with_reducible exact ut_int); exact rfl)
                    | apply ay (hd := rfl)
                    | (apply Y_move_d; exact rfl)
                    | (apply Y_assign_d; exact rfl)
                    | (apply Y_pick_t; exact rfl; exact rfl)
                    | (apply Y_move_ptr; exact rfl)
                    | (apply Y_field_p; exact rfl; exact (by first | with_reducible exact fb_0 | with_reducible exact fb_1 | with_reducible exact fs_0 | with_reducible exact fs_1 | with_reducible exact fn_0 | with_reducible exact fn_1 | with_reducible exact fn_2 | with_reducible exact fn_3 | with_reducible exact fo_0 | with_reducible exact fo_1 | with_reducible exact fo_2 | with_reducible exact fo_3))
                    | (apply Y_load_p; exact rfl; exact (by first | with_reducible exact tc_bind | with_reducible exact tc_m51 | with_reducible exact tc_m68 | with_reducible exact tc_pst | with_reducible exact tc_pf | with_reducible exact tcn_int | with_reducible exact tc_nodes | with_reducible exact tc_node | with_reducible exact tc_ints | with_reducible exact tcn_kind | with_reducible exact tcn_i64 | with_reducible exact tcn_str | with_reducible exact tcn_bool | with_reducible exact tc_str | with_reducible exact tc_int | with_reducible exact tc_kind | with_reducible exact tc_tok | with_reducible exact tc_u8s | with_reducible exact tc_toks | with_reducible exact tc_strs | with_reducible exact tc_bool | with_reducible exact tc_err | with_reducible exact tc_i64); exact rfl; exact rfl)
                    | (apply w1; exact rfl; exact rfl)
                    | (refine w0' ?_)
                    | (apply awp_condT; exact rfl)
                    | (apply awp_condF; exact rfl)
                    | refine awp_block ?_
                    | refine awp_skip ?_
                    | refine awp_ret ?_
                    | refine awp_draw (by kernel_rfl) (by kernel_rfl) ?_
                    | refine en_r ?_
                    | refine eb_r ?_
                  exact mpost_ret (Fits_mk (Le_cons rfl Le_nil) (Pre_cons rfl rfl (Pre_cons rfl rfl Pre_nil)) rfl rfl)
                · cases h
              · rename_i hk1
                split at h
                · rename_i hxy
                  injection h with h; injection h with h1 h2; subst h1; subst h2
                  repeat' first
                    | (refine awp_drawP (id := 2) [.y (.d (nodes a)), .y (.rptr x.av.flat), .y (.d (.agg (x.av.flat.take 4))), .y (.d (nodes b)), .y (.rptr y.av.flat), .y (.d (.agg (y.av.flat.take 4))), .mk ⟨7, zsN, 41, ndC x⟩ (some 8), .mk ⟨8, zsN, 41, zsN.map cst⟩ none, .st 6 ⟨7, zsN, 41, ndC x⟩] (by kernel_rfl) (by kernel_rfl) (.inr (by kernel_rfl)) ⟨⟨rfl, Y_move_d rfl⟩, rfl, ⟨rfl, Y_idx0 hx rfl rfl es_nodes⟩, rfl, ⟨rfl, Y_load_r rfl tc_node rfl⟩, rfl, ⟨rfl, Y_move_d rfl⟩, rfl, ⟨rfl, Y_idx0 hy rfl rfl es_nodes⟩, rfl, ⟨rfl, Y_load_r rfl tc_node rfl⟩, rfl, ⟨rfl, rfl, rfl, zo_node, by kernel_rfl, rfl⟩, rfl, ⟨rfl, rfl, rfl, zo_node, by kernel_rfl, rfl⟩, rfl, ⟨⟨_, _, _, _, _, rfl, rfl, rfl, tc_node, rfl⟩, rfl, rfl, rfl, rfl, rfl⟩, trivial⟩ ?_)
                    | refine en_n ?_
                    | refine awp_seq ?_
                    | refine awp_region ?_
                    | refine alex_nil ?_
                    | refine w0 ?_
                    | (refine a_bar (by kernel_rfl) ?_; apply aStore; exact rfl; exact rfl; exact rfl; (with_reducible exact tc_node); exact rfl; exact rfl; exact rfl; exact rfl)
                    | (apply k1u (hd := rfl); exact rfl; exact rfl)
                    | (apply Y_eqlF; exact rfl; exact rfl; first | assumption | omega)
                    | (refine Y_qcall [0, 1] [] rfl rfl hb_head (hhA) rfl ?_ rfl (by decide) rfl rfl rfl rfl; (repeat (refine SArgs_cons rfl ?_)); exact SArgs_nil)
                    | (refine Y_qcall [0, 1] [] rfl rfl hb_head (hhB) rfl ?_ rfl (by decide) rfl rfl rfl rfl; (repeat (refine SArgs_cons rfl ?_)); exact SArgs_nil)
                    | (apply Y_nd_neqT; exact hxy; exact rfl; exact rfl)
                    | apply ay (hd := rfl)
                    | (apply Y_move_d; exact rfl)
                    | (apply Y_assign_d; exact rfl)
                    | (apply Y_pick_f; exact rfl; exact rfl)
                    | (apply Y_move_ptr; exact rfl)
                    | (apply Y_field_p; exact rfl; exact (by first | with_reducible exact fb_0 | with_reducible exact fb_1 | with_reducible exact fs_0 | with_reducible exact fs_1 | with_reducible exact fn_0 | with_reducible exact fn_1 | with_reducible exact fn_2 | with_reducible exact fn_3 | with_reducible exact fo_0 | with_reducible exact fo_1 | with_reducible exact fo_2 | with_reducible exact fo_3))
                    | (apply Y_load_p; exact rfl; exact (by first | with_reducible exact tc_bind | with_reducible exact tc_m51 | with_reducible exact tc_m68 | with_reducible exact tc_pst | with_reducible exact tc_pf | with_reducible exact tcn_int | with_reducible exact tc_nodes | with_reducible exact tc_node | with_reducible exact tc_ints | with_reducible exact tcn_kind | with_reducible exact tcn_i64 | with_reducible exact tcn_str | with_reducible exact tcn_bool | with_reducible exact tc_str | with_reducible exact tc_int | with_reducible exact tc_kind | with_reducible exact tc_tok | with_reducible exact tc_u8s | with_reducible exact tc_toks | with_reducible exact tc_strs | with_reducible exact tc_bool | with_reducible exact tc_err | with_reducible exact tc_i64); exact rfl; exact rfl)
                    | (apply Y_load_pa; exact rfl; exact (by first | with_reducible exact tc_bind | with_reducible exact tc_m51 | with_reducible exact tc_m68 | with_reducible exact tc_pst | with_reducible exact tc_pf | with_reducible exact tcn_int | with_reducible exact tc_nodes | with_reducible exact tc_node | with_reducible exact tc_ints | with_reducible exact tcn_kind | with_reducible exact tcn_i64 | with_reducible exact tcn_str | with_reducible exact tcn_bool | with_reducible exact tc_str | with_reducible exact tc_int | with_reducible exact tc_kind | with_reducible exact tc_tok | with_reducible exact tc_u8s | with_reducible exact tc_toks | with_reducible exact tc_strs | with_reducible exact tc_bool | with_reducible exact tc_err | with_reducible exact tc_i64); exact rfl; exact rfl; exact rfl)
                    | (refine w0' ?_)
                    | (apply awp_condT; exact rfl)
                    | (apply awp_condF; exact rfl)
                    | refine awp_block ?_
                    | refine awp_ret ?_
                    | refine en_r ?_
                    | refine eb_r ?_
                  exact mpost_ret (Fits_mk (Le_cons rfl Le_nil) (Pre_cons rfl rfl (Pre_cons rfl rfl Pre_nil)) rfl rfl)
                · rename_i hxy
                  have hxy : x = y := Classical.byContradiction hxy
                  repeat' first
                    | (refine awp_drawP (id := 2) [.y (.d (nodes a)), .y (.rptr x.av.flat), .y (.d (.agg (x.av.flat.take 4))), .y (.d (nodes b)), .y (.rptr y.av.flat), .y (.d (.agg (y.av.flat.take 4))), .mk ⟨7, zsN, 41, ndC x⟩ (some 8), .mk ⟨8, zsN, 41, zsN.map cst⟩ none, .st 6 ⟨7, zsN, 41, ndC x⟩] (by kernel_rfl) (by kernel_rfl) (.inr (by kernel_rfl)) ⟨⟨rfl, Y_move_d rfl⟩, rfl, ⟨rfl, Y_idx0 hx rfl rfl es_nodes⟩, rfl, ⟨rfl, Y_load_r rfl tc_node rfl⟩, rfl, ⟨rfl, Y_move_d rfl⟩, rfl, ⟨rfl, Y_idx0 hy rfl rfl es_nodes⟩, rfl, ⟨rfl, Y_load_r rfl tc_node rfl⟩, rfl, ⟨rfl, rfl, rfl, zo_node, by kernel_rfl, rfl⟩, rfl, ⟨rfl, rfl, rfl, zo_node, by kernel_rfl, rfl⟩, rfl, ⟨⟨_, _, _, _, _, rfl, rfl, rfl, tc_node, rfl⟩, rfl, rfl, rfl, rfl, rfl⟩, trivial⟩ ?_)
                    | refine en_n ?_
                    | refine awp_seq ?_
                    | refine awp_region ?_
                    | refine alex_nil ?_
                    | refine w0 ?_
                    | (refine a_bar (by kernel_rfl) ?_; apply aStore; exact rfl; exact rfl; exact rfl; (with_reducible exact tc_node); exact rfl; exact rfl; exact rfl; exact rfl)
                    | (apply k1u (hd := rfl); exact rfl; exact rfl)
                    | (apply Y_eqlF; exact rfl; exact rfl; first | assumption | omega)
                    | (refine Y_qcall [0, 1] [] rfl rfl hb_head (hhA) rfl ?_ rfl (by decide) rfl rfl rfl rfl; (repeat (refine SArgs_cons rfl ?_)); exact SArgs_nil)
                    | (refine Y_qcall [0, 1] [] rfl rfl hb_head (hhB) rfl ?_ rfl (by decide) rfl rfl rfl rfl; (repeat (refine SArgs_cons rfl ?_)); exact SArgs_nil)
                    | (apply Y_nd_neqF; exact hxy; exact rfl; exact rfl)
                    | (apply Y_call (hb := hb_Kids) (hc := Kids_ok a 0 hla); exact CoL_d rfl (CoL_d rfl CoL_nil))
                    | (apply Y_call (hb := hb_Kids) (hc := Kids_ok b 0 hlb); exact CoL_d rfl (CoL_d rfl CoL_nil))
                    | apply ay (hd := rfl)
                    | (apply Y_move_d; exact rfl)
                    | (apply Y_assign_d; exact rfl)
                    | (apply Y_len_m; exact rfl; exact (by first | with_reducible exact et_binds | with_reducible exact et_nodes | with_reducible exact et_ints | with_reducible exact et_nodess | with_reducible exact et_toks | with_reducible exact et_strs | with_reducible exact et_u8s))
                    | (apply Y_pick_f; exact rfl; exact rfl)
                    | (apply Y_move_ptr; exact rfl)
                    | (apply Y_field_p; exact rfl; exact (by first | with_reducible exact fb_0 | with_reducible exact fb_1 | with_reducible exact fs_0 | with_reducible exact fs_1 | with_reducible exact fn_0 | with_reducible exact fn_1 | with_reducible exact fn_2 | with_reducible exact fn_3 | with_reducible exact fo_0 | with_reducible exact fo_1 | with_reducible exact fo_2 | with_reducible exact fo_3))
                    | (apply Y_load_p; exact rfl; exact (by first | with_reducible exact tc_bind | with_reducible exact tc_m51 | with_reducible exact tc_m68 | with_reducible exact tc_pst | with_reducible exact tc_pf | with_reducible exact tcn_int | with_reducible exact tc_nodes | with_reducible exact tc_node | with_reducible exact tc_ints | with_reducible exact tcn_kind | with_reducible exact tcn_i64 | with_reducible exact tcn_str | with_reducible exact tcn_bool | with_reducible exact tc_str | with_reducible exact tc_int | with_reducible exact tc_kind | with_reducible exact tc_tok | with_reducible exact tc_u8s | with_reducible exact tc_toks | with_reducible exact tc_strs | with_reducible exact tc_bool | with_reducible exact tc_err | with_reducible exact tc_i64); exact rfl; exact rfl)
                    | (apply Y_load_pa; exact rfl; exact (by first | with_reducible exact tc_bind | with_reducible exact tc_m51 | with_reducible exact tc_m68 | with_reducible exact tc_pst | with_reducible exact tc_pf | with_reducible exact tcn_int | with_reducible exact tc_nodes | with_reducible exact tc_node | with_reducible exact tc_ints | with_reducible exact tcn_kind | with_reducible exact tcn_i64 | with_reducible exact tcn_str | with_reducible exact tcn_bool | with_reducible exact tc_str | with_reducible exact tc_int | with_reducible exact tc_kind | with_reducible exact tc_tok | with_reducible exact tc_u8s | with_reducible exact tc_toks | with_reducible exact tc_strs | with_reducible exact tc_bool | with_reducible exact tc_err | with_reducible exact tc_i64); exact rfl; exact rfl; exact rfl)
                    | (refine w0' ?_)
                    | (apply awp_condF; exact rfl)
                    | refine awp_block ?_
                    | refine awp_skip ?_
                    | refine eb_n ?_
                  refine awp_loopF (α := Nat × Sto) (fun p => p.1 ≤ (kidsF a 0).length ∧ foldO (kidS n a b) (0, L) ((List.range (kidsF a 0).length).take p.1) = some (0, p.2) ∧ StoB p.2) (fun p => [(0, .ptr 0 0), (1, .d (nodes a)), (2, .d (nodes b)), (9, .d (nints (kidsF a 0))), (10, .d (nints (kidsF b 0))), (87, .d (i64 ((kidsF a 0).length : Int))), (88, .d (i64 (p.1 : Int)))])
                    (fun p => [.bx (fx 0) none [.d (i64 nx), .mp 1], .map (fx 1) (mSto p.2)]) (fun p => (kidsF a 0).length - p.1) (0, L) ⟨Nat.zero_le _, by simp [foldO], hL⟩
                    (Fits_mk (Le_cons rfl (Le_cons rfl (Le_cons rfl (Le_cons rfl (Le_cons rfl (Le_d rfl rfl (Le_cons rfl Le_nil))))))) (Pre_cons rfl rfl (Pre_cons rfl rfl Pre_nil)) rfl rfl) ?_
                  have hkl := kids_len a 0
                  rintro ⟨i, S1⟩ ⟨hi, hf, hS1⟩
                  dsimp only at hi hf hS1 ⊢
                  rcases Nat.lt_or_ge i (kidsF a 0).length with hlt | hge
                  · have hix : (List.range (kidsF a 0).length)[i]? = some i := List.getElem?_range hlt
                    obtain ⟨c, hc⟩ := foldO_take h (i + 1)
                    have hst := foldO_snoc hix hf
                    rw [hc] at hst
                    obtain ⟨k, l, u, v, hka, hlb2, hu, hv, hs⟩ := kid_eq hst.symm
                    have hS2 := sameF_bd _ _ _ _ _ hS1 hs
                    obtain ⟨c1, S2⟩ := c
                    have hih := ih S1 u v c1 S2 hS1 hs
                    by_cases hc1 : c1 = 0
                    · subst hc1
                      repeat' first
                        | refine en_n ?_
                        | refine awp_seq ?_
                        | refine awp_region ?_
                        | refine alex_nil ?_
                        | refine w0 ?_
                        | (apply Y_lssT; exact rfl; exact rfl; first | assumption | omega)
                        | (apply Y_neqF; exact rfl; exact rfl; first | assumption | omega)
                        | (apply Y_cut; exact hu; exact rfl; exact rfl; exact rfl; exact (by first | with_reducible exact es_binds | with_reducible exact es_nodes | with_reducible exact es_ints | with_reducible exact es_nodess | with_reducible exact es_toks | with_reducible exact es_strs | with_reducible exact es_u8s))
                        | (apply Y_cut; exact hv; exact rfl; exact rfl; exact rfl; exact (by first | with_reducible exact es_binds | with_reducible exact es_nodes | with_reducible exact es_ints | with_reducible exact es_nodess | with_reducible exact es_toks | with_reducible exact es_strs | with_reducible exact es_u8s))
                        | (apply Y_call (hb := hb_End) (hc := End_ok a k hla); exact CoL_d rfl (CoL_d rfl CoL_nil))
                        | (apply Y_call (hb := hb_End) (hc := End_ok b l hlb); exact CoL_d rfl (CoL_d rfl CoL_nil))
                        | (refine a_bar (by kernel_rfl) ?_; refine aMCall [0, 1] hb_same (hih) ?_ rfl rfl (by decide) rfl rfl rfl rfl rfl rfl ?_; (repeat (refine SArgs_cons rfl ?_)); exact SArgs_nil)
                        | (apply aJ (hd := rfl); (first | exact Co_dd rfl | exact Co_bb rfl rfl rfl | exact Co_nn rfl); exact rfl; exact (by first | with_reducible exact es_binds | with_reducible exact es_nodes | with_reducible exact es_ints | with_reducible exact es_nodess | with_reducible exact es_toks | with_reducible exact es_strs | with_reducible exact es_u8s); assumption; omega; exact fun _ => rfl)
                        | apply ay (hd := rfl)
                        | (apply Y_move_d; exact rfl)
                        | (apply Y_assign_d; exact rfl)
                        | (apply Y_load_r1; exact rfl; exact (by first | with_reducible exact tc_bind | with_reducible exact tc_m51 | with_reducible exact tc_m68 | with_reducible exact tc_pst | with_reducible exact tc_pf | with_reducible exact tcn_int | with_reducible exact tc_nodes | with_reducible exact tc_node | with_reducible exact tc_ints | with_reducible exact tcn_kind | with_reducible exact tcn_i64 | with_reducible exact tcn_str | with_reducible exact tcn_bool | with_reducible exact tc_str | with_reducible exact tc_int | with_reducible exact tc_kind | with_reducible exact tc_tok | with_reducible exact tc_u8s | with_reducible exact tc_toks | with_reducible exact tc_strs | with_reducible exact tc_bool | with_reducible exact tc_err | with_reducible exact tc_i64))
                        | (apply Y_add; exact rfl; exact rfl)
                        | (apply Y_move_ptr; exact rfl)
                        | (apply awp_condT; exact rfl)
                        | (apply awp_condF; exact rfl)
                        | refine awp_block ?_
                        | refine awp_skip ?_
                        | refine awp_draw (by kernel_rfl) (by kernel_rfl) ?_
                        | refine eb_n ?_
                      · omega
                      exact ⟨(i + 1, S2), ⟨hlt, hc, hS2⟩, by show (kidsF a 0).length - (i + 1) < _; omega, Fits_mk (Le_cons rfl (Le_cons rfl (Le_cons rfl (Le_cons rfl (Le_cons rfl (Le_cons rfl (Le_cons rfl Le_nil))))))) (Pre_cons rfl rfl (Pre_cons rfl rfl Pre_nil)) rfl rfl⟩
                    · have hr := foldO_cut (fun j => by unfold kidS; simp only [ne_eq, hc1, not_false_eq_true, if_true]) hc h
                      injection hr with h1 h2; subst h1; subst h2
                      repeat' first
                        | refine en_n ?_
                        | refine awp_seq ?_
                        | refine awp_region ?_
                        | refine alex_nil ?_
                        | refine w0 ?_
                        | (apply Y_lssT; exact rfl; exact rfl; first | assumption | omega)
                        | (apply Y_neqT; exact rfl; exact rfl; first | assumption | omega)
                        | (apply Y_cut; exact hu; exact rfl; exact rfl; exact rfl; exact (by first | with_reducible exact es_binds | with_reducible exact es_nodes | with_reducible exact es_ints | with_reducible exact es_nodess | with_reducible exact es_toks | with_reducible exact es_strs | with_reducible exact es_u8s))
                        | (apply Y_cut; exact hv; exact rfl; exact rfl; exact rfl; exact (by first | with_reducible exact es_binds | with_reducible exact es_nodes | with_reducible exact es_ints | with_reducible exact es_nodess | with_reducible exact es_toks | with_reducible exact es_strs | with_reducible exact es_u8s))
                        | (apply Y_call (hb := hb_End) (hc := End_ok a k hla); exact CoL_d rfl (CoL_d rfl CoL_nil))
                        | (apply Y_call (hb := hb_End) (hc := End_ok b l hlb); exact CoL_d rfl (CoL_d rfl CoL_nil))
                        | (refine a_bar (by kernel_rfl) ?_; refine aMCall [0, 1] hb_same (hih) ?_ rfl rfl (by decide) rfl rfl rfl rfl rfl rfl ?_; (repeat (refine SArgs_cons rfl ?_)); exact SArgs_nil)
                        | (apply aJ (hd := rfl); (first | exact Co_dd rfl | exact Co_bb rfl rfl rfl | exact Co_nn rfl); exact rfl; exact (by first | with_reducible exact es_binds | with_reducible exact es_nodes | with_reducible exact es_ints | with_reducible exact es_nodess | with_reducible exact es_toks | with_reducible exact es_strs | with_reducible exact es_u8s); assumption; omega; exact fun _ => rfl)
                        | apply ay (hd := rfl)
                        | (apply Y_move_d; exact rfl)
                        | (apply Y_assign_d; exact rfl)
                        | (apply Y_load_r1; exact rfl; exact (by first | with_reducible exact tc_bind | with_reducible exact tc_m51 | with_reducible exact tc_m68 | with_reducible exact tc_pst | with_reducible exact tc_pf | with_reducible exact tcn_int | with_reducible exact tc_nodes | with_reducible exact tc_node | with_reducible exact tc_ints | with_reducible exact tcn_kind | with_reducible exact tcn_i64 | with_reducible exact tcn_str | with_reducible exact tcn_bool | with_reducible exact tc_str | with_reducible exact tc_int | with_reducible exact tc_kind | with_reducible exact tc_tok | with_reducible exact tc_u8s | with_reducible exact tc_toks | with_reducible exact tc_strs | with_reducible exact tc_bool | with_reducible exact tc_err | with_reducible exact tc_i64))
                        | (apply Y_move_ptr; exact rfl)
                        | (apply awp_condT; exact rfl)
                        | refine awp_block ?_
                        | refine awp_skip ?_
                        | refine awp_ret ?_
                        | refine awp_draw (by kernel_rfl) (by kernel_rfl) ?_
                        | refine en_r ?_
                        | refine eb_r ?_
                      exact mpost_ret (Fits_mk (Le_cons rfl Le_nil) (Pre_cons rfl rfl (Pre_cons rfl rfl Pre_nil)) rfl rfl)
                  · have e2 : (0, S1) = (e, L') := by rw [List.take_of_length_le (by rw [List.length_range]; exact hge), h] at hf; injection hf with hf; exact hf.symm
                    injection e2 with e2 e3; subst e2; subst e3
                    repeat' first
                      | refine en_n ?_
                      | refine awp_seq ?_
                      | refine awp_region ?_
                      | refine alex_nil ?_
                      | refine w0 ?_
                      | (apply Y_lssF; exact rfl; exact rfl; first | assumption | omega)
                      | apply ay (hd := rfl)
                      | (apply Y_assign_d; exact rfl)
                      | (apply awp_condF; exact rfl)
                      | refine awp_ret ?_
                      | refine awp_exit ?_
                      | refine en_e ?_
                      | refine eb_e ?_
                    exact mpost_ret (Fits_mk (Le_cons rfl Le_nil) (Pre_cons rfl rfl (Pre_cons rfl rfl Pre_nil)) rfl rfl)
      · cases h
    · cases h
end Go.Proofs.YtamhkcnpocdfcaaGreatDoor
/- The statements on types, in plain words: the store; what it says that variables are. -/
namespace Go.Proofs.YtamhkcnpocdfcaaGreatDoor

/-! ### from some fuel on -/
def Ev (P : Nat → Prop) : Prop := ∃ n, ∀ m, n ≤ m → P m
theorem Ev.and {P Q : Nat → Prop} (hp : Ev P) (hq : Ev Q) : Ev fun m => P m ∧ Q m := by
  obtain ⟨a, ha⟩ := hp; obtain ⟨b, hb⟩ := hq
  exact ⟨max a b, fun m hm => ⟨ha m (by omega), hb m (by omega)⟩⟩
theorem Ev.mono {P Q : Nat → Prop} (hp : Ev P) (h : ∀ m, P m → Q m) : Ev Q := by
  obtain ⟨a, ha⟩ := hp; exact ⟨a, fun m hm => h m (ha m hm)⟩
theorem Ev.succ {P Q : Nat → Prop} (hp : Ev P) (h : ∀ m, P m → Q (m + 1)) : Ev Q := by
  obtain ⟨a, ha⟩ := hp
  refine ⟨a + 1, fun m hm => ?_⟩
  obtain ⟨k, rfl⟩ : ∃ k, m = k + 1 := ⟨m - 1, by omega⟩
  exact h k (ha k (by omega))
theorem Ev.all {P : Nat → Prop} (h : ∀ m, P m) : Ev P := ⟨0, fun m _ => h m⟩
theorem Ev.get {P : Nat → Prop} (h : Ev P) : ∃ n, P n := by obtain ⟨a, ha⟩ := h; exact ⟨a, ha a (Nat.le_refl _)⟩

/-! ### keys -/
theorem lookA_app {β : Type} {t : β} {x : Int} : ∀ (L : List (Int × β)) (k : Int), lookA (L ++ [(x, t)]) k = match lookA L k with | some u => some u | none => if x = k then some t else none
  | [], k => by simp only [List.nil_append, lookA]
  | (a, d) :: r, k => by
    simp only [List.cons_append, lookA]
    by_cases h : a = k
    · rw [if_pos h, if_pos h]
    · rw [if_neg h, if_neg h, lookA_app r k]
theorem putA_app {β : Type} {t : β} {x : Int} : ∀ {L : List (Int × β)}, lookA L x = none → putA L x t = L ++ [(x, t)]
  | [], _ => rfl
  | (a, d) :: r, h => by
    unfold lookA at h; unfold putA
    split at h
    · cases h
    · rename_i hk; rw [if_neg hk, putA_app h]; rfl
theorem lookA_putk {β : Type} {t : β} {x : Int} : ∀ (L : List (Int × β)) (k : Int), lookA (putA L x t) k = if x = k then some t else lookA L k
  | [], k => by simp only [putA, lookA]
  | (a, d) :: r, k => by
    unfold putA
    by_cases h : a = x
    · rw [if_pos h]; unfold lookA
      by_cases h2 : a = k
      · rw [if_pos h2, if_pos (h ▸ h2)]
      · rw [if_neg h2, if_neg (fun e => h2 (h.trans e)), if_neg h2]
    · rw [if_neg h]; unfold lookA
      by_cases h2 : a = k
      · rw [if_pos h2, if_neg (fun e => h (h2.trans e.symm)), if_pos h2]
      · rw [if_neg h2, lookA_putk r k]
        by_cases h3 : x = k
        · rw [if_pos h3, if_pos h3]
        · rw [if_neg h3, if_neg h3, if_neg h2]
theorem lookA_none_mem {β : Type} : ∀ {L : List (Int × β)} {x : Int}, lookA L x = none → ∀ p ∈ L, p.1 ≠ x
  | [], _, _, p, hp => by cases hp
  | (a, d) :: r, x, h, p, hp => by
    unfold lookA at h
    split at h
    · cases h
    · rename_i hk
      rcases List.mem_cons.1 hp with rfl | hp
      · exact hk
      · exact lookA_none_mem h p hp
theorem lookA_of_mem {β : Type} : ∀ {L : List (Int × β)} {p : Int × β}, (L.map Prod.fst).Nodup → p ∈ L → lookA L p.1 = some p.2
  | [], _, _, h => by cases h
  | (a, d) :: r, p, hn, h => by
    rw [List.map_cons, List.nodup_cons] at hn
    unfold lookA
    rcases List.mem_cons.1 h with rfl | h
    · rw [if_pos rfl]
    · rw [if_neg (fun e => hn.1 (by rw [e]; exact List.mem_map.2 ⟨p, h, rfl⟩)), lookA_of_mem hn.2 h]

/-! ### what a store says -/
structure Gd (V : List Int) (t : List Nd) : Prop where
  ty : Ty t
  len : t.length ≤ 4000
  vs : ∀ x, Vin x t → x ∈ V
def Sat (σ : Int → List Nd) (L : Sto) : Prop := ∀ k t, lookA L k = some t → σ k = sub σ t
def free (V : List Int) (L : Sto) : Nat := (V.filter fun k => (lookA L k).isNone).length
def Rng (x : Int) : Prop := 0 ≤ x ∧ x ≤ 1048576
/-- it has the variables ρ says; none is in itself -/
structure Inv (V : List Int) (L : Sto) (ρ : Int → List Nd) : Prop where
  gd : ∀ k t, lookA L k = some t → Gd V t
  eq : ∀ k t, lookA L k = some t → ρ k = sub ρ t
  dn : ∀ k t, lookA L k = some t → (∃ j, t = [vN j] ∧ j < k) ∨ ∃ h r, t = h :: r ∧ h.kind ≠ 31
  fr : ∀ k, lookA L k = none → ρ k = [vN k]
  ky : ∀ p ∈ L, p.1 ∈ V ∧ Rng p.1
  nd : (L.map Prod.fst).Nodup
  cnt : L.length + free V L ≤ V.length
theorem Ty.rng {t : List Nd} (h : Ty t) {x : Int} (hx : Vin x t) : Rng x := by
  obtain ⟨n, hn, hk, rfl⟩ := hx; exact (h.lf n hn hk).2
def rk (ρ : Int → List Nd) (k : Int) : Nat := (ρ k).length * 2000000 + k.toNat
section
variable {V : List Int} {L : Sto} {ρ : Int → List Nd}
theorem Inv.rk (h : Inv V L ρ) {k y : Int} {t : List Nd} (hk : lookA L k = some t) (hy : Vin y t) : rk ρ y < rk ρ k := by
  have he := h.eq k t hk
  have hr := (h.gd k t hk).ty.rng hy
  unfold Rng at hr
  unfold Go.Proofs.YtamhkcnpocdfcaaGreatDoor.rk
  rcases h.dn k t hk with ⟨j, rfl, hj⟩ | ⟨n, r, rfl, hn⟩
  · rw [Vin_var] at hy; subst hy
    rw [sub_var] at he; rw [he]; omega
  · rw [sub_con hn] at he
    rcases Vin_cons.1 hy with ⟨h1, _⟩ | hy
    · exact absurd h1 hn
    · have := sub_ge (σ := ρ) hy
      rw [he, List.length_cons]; omega
theorem Inv.ind (h : Inv V L ρ) {P : Int → Prop} (hf : ∀ k, lookA L k = none → P k) (hb : ∀ k t, lookA L k = some t → (∀ y, Vin y t → P y) → P k) : ∀ k, P k := by
  have : ∀ n k, Go.Proofs.YtamhkcnpocdfcaaGreatDoor.rk ρ k < n → P k := by
    intro n
    induction n with
    | zero => intro k hk; omega
    | succ n ih =>
      intro k hk
      cases hl : lookA L k with
      | none => exact hf k hl
      | some t => exact hb k t hl fun y hy => ih y (by have := h.rk hl hy; omega)
  exact fun k => this _ k (Nat.lt_succ_self _)
theorem Inv.sat (h : Inv V L ρ) : Sat ρ L := h.eq
theorem Inv.absorb (h : Inv V L ρ) {σ : Int → List Nd} (hs : Sat σ L) : ∀ k, sub σ (ρ k) = σ k := by
  refine h.ind (fun k hk => by rw [h.fr k hk, sub_var]) (fun k t hk ih => ?_)
  rw [h.eq k t hk, sub_sub, hs k t hk]
  exact sub_congr ih
theorem Inv.absorbL (h : Inv V L ρ) {σ : Int → List Nd} (hs : Sat σ L) (t : List Nd) : sub σ (sub ρ t) = sub σ t := by
  rw [sub_sub]; exact sub_congr fun x _ => h.absorb hs x
theorem Inv.whl (h : Inv V L ρ) : ∀ k, Whl (ρ k) := by
  refine h.ind (fun k hk => by rw [h.fr k hk]; rfl) (fun k t hk ih => ?_)
  rw [h.eq k t hk]; exact cns_sub (h.gd k t hk).ty.lf ih (h.gd k t hk).ty.whl
theorem Inv.ty (h : Inv V L ρ) : ∀ k, Rng k → Ty (ρ k) := by
  refine h.ind (fun k hk hr => by rw [h.fr k hk]; exact Ty_var hr) (fun k t hk ih _ => ?_)
  rw [h.eq k t hk]; exact (h.gd k t hk).ty.sub fun x hx => ih x hx ((h.gd k t hk).ty.rng hx)
theorem Inv.tyL (h : Inv V L ρ) {t : List Nd} (ht : Ty t) : Ty (sub ρ t) := ht.sub fun x hx => h.ty x (ht.rng hx)
theorem Inv.unb (h : Inv V L ρ) : ∀ k x, Vin x (ρ k) → lookA L x = none := by
  refine h.ind (fun k hk x hx => by rw [h.fr k hk, Vin_var] at hx; subst hx; exact hk) (fun k t hk ih x hx => ?_)
  rw [h.eq k t hk, Vin_sub] at hx
  obtain ⟨y, hy, hx⟩ := hx
  exact ih y hy x hx
theorem Inv.unbL (h : Inv V L ρ) {t : List Nd} {x : Int} (hx : Vin x (sub ρ t)) : lookA L x = none := by
  obtain ⟨y, _, hx⟩ := Vin_sub.1 hx; exact h.unb y x hx
theorem Inv.inV (h : Inv V L ρ) : ∀ k, k ∈ V → ∀ x, Vin x (ρ k) → x ∈ V := by
  refine h.ind (fun k hk hv x hx => by rw [h.fr k hk, Vin_var] at hx; subst hx; exact hv) (fun k t hk ih hv x hx => ?_)
  rw [h.eq k t hk, Vin_sub] at hx
  obtain ⟨y, hy, hx⟩ := hx
  exact ih y hy ((h.gd k t hk).vs y hy) x hx
theorem Inv.nil (V : List Int) : Inv V [] fun k => [vN k] where
  gd := fun _ _ h => by cases h
  eq := fun _ _ h => by cases h
  dn := fun _ _ h => by cases h
  fr := fun _ _ => rfl
  ky := fun _ h => by cases h
  nd := List.nodup_nil
  cnt := by rw [free, List.length_nil, Nat.zero_add]; exact List.length_filter_le _ _
def upd (x : Int) (u : List Nd) (k : Int) : List Nd := if k = x then u else [vN k]
theorem filter_lt {V : List Int} {p q : Int → Bool} (hpq : ∀ k, q k = true → p k = true) {x : Int} (hx : x ∈ V) (hp : p x = true) (hq : q x = false) : (V.filter q).length < (V.filter p).length := by
  have hle : ∀ W : List Int, (W.filter q).length ≤ (W.filter p).length := by
    intro W
    induction W with
    | nil => simp
    | cons a W ih =>
      rw [List.filter_cons, List.filter_cons]
      by_cases h1 : q a = true
      · rw [if_pos h1, if_pos (hpq a h1)]; simp only [List.length_cons]; omega
      · rw [if_neg h1]
        by_cases h2 : p a = true
        · rw [if_pos h2]; simp only [List.length_cons]; omega
        · rw [if_neg h2]; exact ih
  induction V with
  | nil => cases hx
  | cons a W ih =>
    rw [List.filter_cons, List.filter_cons]
    rcases List.mem_cons.1 hx with rfl | hx
    · rw [if_pos hp, if_neg (by rw [hq]; exact Bool.false_ne_true), List.length_cons]; have := hle W; omega
    · have := ih hx
      by_cases h1 : q a = true
      · rw [if_pos h1, if_pos (hpq a h1)]; simp only [List.length_cons]; omega
      · rw [if_neg h1]
        by_cases h2 : p a = true
        · rw [if_pos h2]; simp only [List.length_cons]; omega
        · rw [if_neg h2]; exact this
theorem free_put {x : Int} {t : List Nd} (hx : lookA L x = none) (hV : x ∈ V) : free V (putA L x t) < free V L := by
  refine filter_lt (fun k hk => ?_) hV (by rw [hx]; rfl) (by rw [lookA_putk, if_pos rfl]; rfl)
  rw [lookA_putk] at hk
  split at hk
  · cases hk
  · exact hk
/-- a variable that is none yet is put for a type that it isn't in -/
theorem Inv.put (h : Inv V L ρ) {x : Int} {t : List Nd} (hx : lookA L x = none) (hV : x ∈ V) (hr : Rng x) (ht : Gd V t) (hd : (∃ j, t = [vN j] ∧ j < x) ∨ ∃ n r, t = n :: r ∧ n.kind ≠ 31) (ho : ¬ Vin x (sub ρ t)) :
    Inv V (putA L x t) (fun k => sub (upd x (sub ρ t)) (ρ k)) where
  gd := fun k u hk => by
    rw [lookA_putk] at hk
    split at hk
    · injection hk with hk; subst hk; exact ht
    · exact h.gd k u hk
  eq := fun k u hk => by
    rw [lookA_putk] at hk
    split at hk
    · rename_i e
      injection hk with hk; subst hk; subst e
      show sub _ (ρ x) = _
      rw [h.fr x hx, sub_var, upd, if_pos rfl, ← sub_sub (upd x (sub ρ t)) ρ]
      refine (sub_id (h.tyL ht.ty).lf fun y hy => ?_).symm
      have hne : y ≠ x := fun e => ho (e ▸ hy)
      rw [upd, if_neg hne]
    · show sub _ (ρ k) = _
      rw [h.eq k u hk, sub_sub]
  dn := fun k u hk => by
    rw [lookA_putk] at hk
    split at hk
    · rename_i e
      injection hk with hk; subst hk; subst e; exact hd
    · exact h.dn k u hk
  fr := fun k hk => by
    rw [lookA_putk] at hk
    split at hk
    · cases hk
    · rename_i e
      show sub _ (ρ k) = _
      rw [h.fr k hk, sub_var, upd, if_neg (fun c => e c.symm)]
  ky := fun p hp => by
    rcases putA_mem hp with hp | rfl
    · exact h.ky p hp
    · exact ⟨hV, hr⟩
  nd := by
    rw [putA_app hx, List.map_append, List.nodup_append]
    refine ⟨h.nd, by simp, fun a ha b hb e => ?_⟩
    simp only [List.map_cons, List.map_nil, List.mem_singleton] at hb
    obtain ⟨p, hp, rfl⟩ := List.mem_map.1 ha
    exact lookA_none_mem hx p hp (e.trans hb)
  cnt := by
    have := free_put (t := t) hx hV
    rw [putA_app hx] at this ⊢
    rw [List.length_append, List.length_singleton]; have := h.cnt; omega
theorem Sat_put {σ : Int → List Nd} {x : Int} {t : List Nd} (hx : lookA L x = none) : Sat σ (putA L x t) ↔ Sat σ L ∧ σ x = sub σ t := by
  constructor
  · intro hs
    refine ⟨fun k u hk => hs k u ?_, hs x t (by rw [lookA_putk, if_pos rfl])⟩
    rw [lookA_putk, if_neg (fun e => ?_), hk]
    subst e; rw [hx] at hk; cases hk
  · rintro ⟨h1, h2⟩ k u hk
    rw [lookA_putk] at hk
    split at hk
    · rename_i e; injection hk with hk; subst hk; subst e; exact h2
    · exact h1 k u hk

/-! ### head, whole -/
theorem varN_eq (x : Int) : varN x = [vN x] := rfl
/-- what head finds -/
structure HP (V : List Int) (L : Sto) (a b : List Nd) : Prop where
  gd : Gd V b
  is : (∃ x, b = [vN x] ∧ lookA L x = none ∧ x ∈ V ∧ Rng x) ∨ ∃ n r, b = n :: r ∧ n.kind ≠ 31
  eq : ∀ σ, Sat σ L → sub σ b = sub σ a
theorem headF_var (m : Nat) (L : Sto) (x : Int) : headF (m + 1) L [vN x] = match lookA L x with | some u => headF m L u | none => some [vN x] := rfl
theorem headF_con (m : Nat) (L : Sto) {n : Nd} (r : List Nd) (hn : n.kind ≠ 31) : headF (m + 1) L (n :: r) = some (n :: r) := by
  simp only [headF, List.getElem?_cons_zero, if_neg hn]
theorem Inv.head_var (h : Inv V L ρ) : ∀ x, Rng x → x ∈ V → ∃ b, Ev (fun m => headF m L [vN x] = some b) ∧ HP V L [vN x] b := by
  refine h.ind (fun x hx hr hV => ?_) (fun x t hx ih hr hV => ?_)
  · refine ⟨[vN x], Ev.succ (Ev.all fun _ => trivial) fun m _ => by rw [headF_var, hx], ⟨Ty_var hr, by simp, fun y hy => by rw [Vin_var] at hy; subst hy; exact hV⟩, .inl ⟨x, rfl, hx, hV, hr⟩, fun σ _ => rfl⟩
  · have hg := h.gd x t hx
    rcases h.dn x t hx with ⟨j, rfl, hj⟩ | ⟨n, r, rfl, hn⟩
    · obtain ⟨b, hb, h1, h2, h3⟩ := ih j (Vin_var.2 rfl) (hg.ty.rng (Vin_var.2 rfl)) (hg.vs j (Vin_var.2 rfl))
      refine ⟨b, hb.succ fun m hm => by rw [headF_var, hx]; exact hm, h1, h2, fun σ hs => ?_⟩
      rw [h3 σ hs, sub_var, sub_var, hs x _ hx, sub_var]
    · refine ⟨n :: r, ((Ev.all (P := fun _ => True) fun _ => trivial).succ (Q := fun m => headF m L (n :: r) = some (n :: r)) fun m _ => headF_con m L r hn).succ fun m hm => by rw [headF_var, hx]; exact hm, hg, .inr ⟨n, r, rfl, hn⟩, fun σ hs => ?_⟩
      rw [sub_var, hs x _ hx]
theorem Inv.head (h : Inv V L ρ) {a : List Nd} (ha : Gd V a) : ∃ b, Ev (fun m => headF m L a = some b) ∧ HP V L a b := by
  rcases ha.ty.cases with ⟨x, rfl, hr⟩ | ⟨n, KK, rfl, hn, _⟩
  · exact h.head_var x hr (ha.vs x (Vin_var.2 rfl))
  · exact ⟨_, (Ev.all (P := fun _ => True) fun _ => trivial).succ fun m _ => headF_con m L _ hn, ha, .inr ⟨n, _, rfl, hn⟩, fun σ _ => rfl⟩
def resS (n : Nat) (L : Sto) (x : Nd) : Option (List Nd) := if x.kind = 31 then (match lookA L x.num with | some u => resF n L u | none => some [x]) else some [x]
theorem resF_succ (n : Nat) (L : Sto) (t : List Nd) : resF (n + 1) L t = catO (resS n L) t := rfl
theorem Inv.res_list (h : Inv V L ρ) : ∀ t : List Nd, Lf t → (∀ y u, Vin y t → lookA L y = some u → Ev fun m => resF m L u = some (ρ y)) → Ev fun m => catO (resS m L) t = some (sub ρ t)
  | [], _, _ => Ev.all fun _ => rfl
  | x :: r, hl, hy => by
    have ih := Inv.res_list h r (fun n hn => hl n (List.mem_cons_of_mem _ hn)) (fun y u hv hu => hy y u (Vin_cons.2 (.inr hv)) hu)
    have h1 : Ev fun m => resS m L x = some (sub1 ρ x) := by
      unfold resS sub1
      by_cases hk : x.kind = 31
      · simp only [if_pos hk]
        cases hq : lookA L x.num with
        | none =>
          have e := (hl x List.mem_cons_self hk).1
          exact Ev.all fun _ => by simp only [h.fr x.num hq]; rw [← e]
        | some u => exact hy x.num u (Vin_cons.2 (.inl ⟨hk, rfl⟩)) hq
      · exact Ev.all fun _ => by rw [if_neg hk, if_neg hk]
    refine (h1.and ih).mono fun m ⟨e1, e2⟩ => ?_
    simp only [catO, e1, e2, sub_cons]
theorem Inv.res_var (h : Inv V L ρ) : ∀ k u, lookA L k = some u → Ev fun m => resF m L u = some (ρ k) := by
  refine h.ind (fun k hk u hu => by rw [hk] at hu; cases hu) (fun k t hk ih u hu => ?_)
  rw [hk] at hu; injection hu with hu; subst hu
  refine (h.res_list t (h.gd k t hk).ty.lf (fun y u hy hu => ih y hy u hu)).succ fun m hm => ?_
  rw [resF_succ, hm, h.eq k t hk]
theorem Inv.res (h : Inv V L ρ) {t : List Nd} (ht : Ty t) : Ev fun m => resF m L t = some (sub ρ t) :=
  (h.res_list t ht.lf fun y u _ hu => h.res_var y u hu).succ fun m hm => by rw [resF_succ, hm]

/-! ### size -/
def Msz (ρ : Int → List Nd) (S : Seen) : Prop := ∀ z, 0 < (lookA S z).getD 0 → (lookA S z).getD 0 = min ((ρ z).length : Int) 4001
theorem Inv.size_list (h : Inv V L ρ) : ∀ t : List Nd, Lf t → (∀ y u, Vin y t → lookA L y = some u → ∀ S, Msz ρ S → ∃ S', (Ev fun m => sizeF m L u S = some (min ((ρ y).length : Int) 4001, S')) ∧ Msz ρ S') →
    ∀ (acc : Int) (S : Seen), 0 ≤ acc → acc ≤ 4001 → Msz ρ S → ∃ S', (Ev fun m => foldO (szS m L) (acc, S) t = some (min (acc + ((sub ρ t).length : Int)) 4001, S')) ∧ Msz ρ S'
  | [], _, _, acc, S, h0, h1, hS => ⟨S, Ev.all fun _ => by rw [sub_nil]; simp only [foldO, List.length_nil]; congr 2; omega, hS⟩
  | x :: r, hl, hy, acc, S, h0, h1, hS => by
    have ih := Inv.size_list h r (fun n hn => hl n (List.mem_cons_of_mem _ hn)) (fun y u hv hu => hy y u (Vin_cons.2 (.inr hv)) hu)
    -- one node
    obtain ⟨S1, e1, hS1⟩ : ∃ S1, (Ev fun m => szS m L (acc, S) x = some (min (acc + ((sub1 ρ x).length : Int)) 4001, S1)) ∧ Msz ρ S1 := by
      unfold szS sub1
      by_cases hk : x.kind = 31
      · simp only [if_pos hk]
        cases hq : lookA L x.num with
        | none => exact ⟨S, Ev.all fun _ => by rw [h.fr x.num hq]; rfl, hS⟩
        | some u =>
          by_cases hz : (lookA S x.num).getD 0 > 0
          · refine ⟨S, Ev.all fun _ => ?_, hS⟩
            simp only [if_pos hz]; rw [hS x.num hz]; congr 2; omega
          · obtain ⟨S2, e2, hS2⟩ := hy x.num u (Vin_cons.2 (.inl ⟨hk, rfl⟩)) hq S hS
            refine ⟨putA S2 x.num (min ((ρ x.num).length : Int) 4001), e2.mono fun m hm => ?_, fun z hz => ?_⟩
            · simp only [if_neg hz, hm]; congr 2; omega
            · rw [lookA_putk] at hz ⊢
              split
              · rename_i e; subst e; rfl
              · rename_i e; rw [if_neg e] at hz; exact hS2 z hz
      · simp only [if_neg hk, List.length_singleton]; exact ⟨S, Ev.all fun _ => rfl, hS⟩
    obtain ⟨S2, e2, hS2⟩ := ih (min (acc + ((sub1 ρ x).length : Int)) 4001) S1 (by omega) (by omega) hS1
    refine ⟨S2, (e1.and e2).mono fun m ⟨a, b⟩ => ?_, hS2⟩
    simp only [foldO, a, b, sub_cons, List.length_append]
    congr 2; omega
theorem Inv.size_var (h : Inv V L ρ) : ∀ k u, lookA L k = some u → ∀ S, Msz ρ S → ∃ S', (Ev fun m => sizeF m L u S = some (min ((ρ k).length : Int) 4001, S')) ∧ Msz ρ S' := by
  refine h.ind (fun k hk u hu => by rw [hk] at hu; cases hu) (fun k t hk ih u hu S hS => ?_)
  rw [hk] at hu; injection hu with hu; subst hu
  obtain ⟨S', e, hS'⟩ := h.size_list t (h.gd k t hk).ty.lf (fun y u hy hu => ih y hy u hu) 0 S (by omega) (by omega) hS
  refine ⟨S', e.succ fun m hm => ?_, hS'⟩
  rw [sizeF_succ, hm, h.eq k t hk]; congr 2; omega
theorem Inv.size (h : Inv V L ρ) {t : List Nd} (ht : Ty t) : ∃ S', Ev fun m => sizeF m L t [] = some (min ((sub ρ t).length : Int) 4001, S') := by
  obtain ⟨S', e, _⟩ := h.size_list t ht.lf (fun y u _ hu => h.size_var y u hu) 0 [] (by omega) (by omega) (fun z hz => by simp [lookA] at hz)
  refine ⟨S', e.succ fun m hm => ?_⟩
  rw [sizeF_succ, hm]; congr 2; omega

/-! ### is a variable part of it? -/
def Vis (S : Seen) (z : Int) : Prop := 0 < (lookA S z).getD 0
/-- after a look from t, with S seen ahead of it -/
structure Lk (ρ : Int → List Nd) (L : Sto) (x : Int) (t : List Nd) (S : Seen) (r : Bool × Seen) : Prop where
  yes : r.1 = true → Vin x (sub ρ t)
  not : r.1 = false → ¬ Vis r.2 x
  keep : r.1 = false → ∀ z, Vis S z → Vis r.2 z
  has : r.1 = false → ∀ z, Vin z t → Vis r.2 z
  shut : r.1 = false → ∀ z, Vis r.2 z → Vis S z ∨ ∀ u y, lookA L z = some u → Vin y u → Vis r.2 y
theorem Vis_put {S : Seen} {z : Int} {v : Int} (hv : 0 < v) {w : Int} : Vis (putA S z v) w ↔ w = z ∨ Vis S w := by
  unfold Vis
  rw [lookA_putk]
  by_cases h : z = w
  · subst h; simp [hv]
  · rw [if_neg h]; simp [Ne.symm h]
theorem Inv.in_list (h : Inv V L ρ) {x : Int} (hx : lookA L x = none) : ∀ t : List Nd, (∀ y, Vin y t → ∀ S, (∀ z, 0 ≤ (lookA S z).getD 0) → ¬ Vis S x → ∃ r, (Ev fun m => inF m L x ((lookA L y).getD []) S = some r) ∧ (∀ z, 0 ≤ (lookA r.2 z).getD 0) ∧ Lk ρ L x ((lookA L y).getD []) S r) →
    ∀ S : Seen, (∀ z, 0 ≤ (lookA S z).getD 0) → ¬ Vis S x → ∃ r, (Ev fun m => foldO (inS m L x) (false, S) t = some r) ∧ (∀ z, 0 ≤ (lookA r.2 z).getD 0) ∧ Lk ρ L x t S r
  | [], _, S, hp, hS => ⟨(false, S), Ev.all fun _ => rfl, hp, ⟨(fun c => by cases c), fun _ => hS, fun _ _ c => c, fun _ _ c => absurd c Vin_nil, fun _ _ c => .inl c⟩⟩
  | n :: t, hy, S, hp, hS => by
    have ih := Inv.in_list h hx t (fun y hv => hy y (Vin_cons.2 (.inr hv)))
    have here : n.kind ≠ 31 ∨ Vis S n.num → ∃ r, (Ev fun m => foldO (inS m L x) (false, S) (n :: t) = some r) ∧ (∀ z, 0 ≤ (lookA r.2 z).getD 0) ∧ Lk ρ L x (n :: t) S r := fun hc => by
      obtain ⟨r, e, hr, k⟩ := ih S hp hS
      have hc' : n.kind ≠ 31 ∨ (lookA S n.num).getD 0 > 0 := hc
      refine ⟨r, e.mono fun m hm => ?_, hr, ⟨fun c => ?_, k.not, k.keep, fun c z hz => ?_, k.shut⟩⟩
      · simp only [foldO, inS]
        rw [if_neg Bool.false_ne_true, if_pos hc']; exact hm
      · rw [sub_cons, Vin_append]; exact .inr (k.yes c)
      · rcases Vin_cons.1 hz with ⟨h1, rfl⟩ | hz
        · exact k.keep c _ (hc.resolve_left fun c => c h1)
        · exact k.has c z hz
    by_cases hc : n.kind ≠ 31 ∨ Vis S n.num
    · exact here hc
    · have hc' : ¬ (n.kind ≠ 31 ∨ (lookA S n.num).getD 0 > 0) := hc
      have hk : n.kind = 31 := Classical.byContradiction fun c => hc (.inl c)
      have hv : 0 < (lookA S n.num).getD 0 + 1 := by have := hp n.num; omega
      have hp1 : ∀ z, 0 ≤ (lookA (putA S n.num ((lookA S n.num).getD 0 + 1)) z).getD 0 := fun z => by
        rw [lookA_putk]; split
        · simp only [Option.getD_some]; omega
        · exact hp z
      by_cases hnx : n.num = x
      · refine ⟨(true, putA S n.num ((lookA S n.num).getD 0 + 1)), Ev.all fun m => ?_, hp1, ⟨fun _ => ?_, (fun c => by cases c), (fun c => by cases c), (fun c => by cases c), (fun c => by cases c)⟩⟩
        · simp only [foldO, inS]
          rw [if_neg Bool.false_ne_true, if_neg hc', if_pos hnx]
          have : ∀ (l : List Nd) (q : Seen), foldO (inS m L x) (true, q) l = some (true, q) := by
            intro l q
            induction l with
            | nil => rfl
            | cons a l ihl => simp only [foldO, inS, if_true, ihl]
          exact this t _
        · rw [sub_cons, Vin_append, sub1, if_pos hk, hnx, h.fr x hx]; exact .inl (Vin_var.2 rfl)
      · have hS1 : ¬ Vis (putA S n.num ((lookA S n.num).getD 0 + 1)) x := fun c => by
          rcases (Vis_put hv).1 c with c | c
          · exact hnx c.symm
          · exact hS c
        obtain ⟨⟨b1, S2⟩, e1, hp2, k1⟩ := hy n.num (Vin_cons.2 (.inl ⟨hk, rfl⟩)) _ hp1 hS1
        have hin : Vin x (sub ρ ((lookA L n.num).getD [])) → Vin x (sub ρ (n :: t)) := fun hin => by
          rw [sub_cons, Vin_append, sub1, if_pos hk]
          cases hq : lookA L n.num with
          | none => rw [hq] at hin; exact absurd hin Vin_nil
          | some u => rw [hq] at hin; rw [h.eq _ u hq]; exact .inl hin
        cases b1 with
        | true =>
          refine ⟨(true, S2), e1.mono fun m hm => ?_, hp2, ⟨fun _ => hin (k1.yes rfl), (fun c => by cases c), (fun c => by cases c), (fun c => by cases c), (fun c => by cases c)⟩⟩
          simp only [foldO, inS]
          rw [if_neg Bool.false_ne_true, if_neg hc', if_neg hnx, hm]
          have : ∀ (l : List Nd) (q : Seen), foldO (inS m L x) (true, q) l = some (true, q) := by
            intro l q
            induction l with
            | nil => rfl
            | cons a l ihl => simp only [foldO, inS, if_true, ihl]
          exact this t _
        | false =>
          obtain ⟨r, e2, hp3, k2⟩ := ih S2 hp2 (k1.not rfl)
          refine ⟨r, (e1.and e2).mono fun m ⟨h1, h2⟩ => ?_, hp3, ⟨fun c => ?_, k2.not, fun c z hz => ?_, fun c z hz => ?_, fun c z hz => ?_⟩⟩
          · simp only [foldO, inS]
            rw [if_neg Bool.false_ne_true, if_neg hc', if_neg hnx, h1]; exact h2
          · rw [sub_cons, Vin_append]; exact .inr (k2.yes c)
          · exact k2.keep c z (k1.keep rfl z ((Vis_put hv).2 (.inr hz)))
          · rcases Vin_cons.1 hz with ⟨_, rfl⟩ | hz
            · exact k2.keep c _ (k1.keep rfl _ ((Vis_put hv).2 (.inl rfl)))
            · exact k2.has c z hz
          · rcases k2.shut c z hz with hz2 | hz2
            · rcases k1.shut rfl z hz2 with hz3 | hz3
              · rcases (Vis_put hv).1 hz3 with rfl | hz4
                · exact .inr fun u y hu hyu => k2.keep c y (k1.has rfl y (by rw [hu]; exact hyu))
                · exact .inl hz4
              · exact .inr fun u y hu hyu => k2.keep c y (hz3 u y hu hyu)
            · exact .inr hz2
theorem Inv.in_var (h : Inv V L ρ) {x : Int} (hx : lookA L x = none) : ∀ k, ∀ S : Seen, (∀ z, 0 ≤ (lookA S z).getD 0) → ¬ Vis S x → ∃ r, (Ev fun m => inF m L x ((lookA L k).getD []) S = some r) ∧ (∀ z, 0 ≤ (lookA r.2 z).getD 0) ∧ Lk ρ L x ((lookA L k).getD []) S r := by
  refine h.ind (fun k hk S hp hS => ?_) (fun k t hk ih S hp hS => ?_)
  · rw [hk]
    obtain ⟨r, e, k1, k2⟩ := h.in_list hx [] (fun y hy => absurd hy Vin_nil) S hp hS
    exact ⟨r, e.succ fun m hm => by rw [inF_succ]; exact hm, k1, k2⟩
  · rw [hk]
    obtain ⟨r, e, k1, k2⟩ := h.in_list hx t (fun y hy => ih y hy) S hp hS
    exact ⟨r, e.succ fun m hm => by rw [inF_succ]; exact hm, k1, k2⟩
theorem Inv.inF (h : Inv V L ρ) {x : Int} (hx : lookA L x = none) (t : List Nd) : ∃ r, (Ev fun m => inF m L x t [] = some r) ∧ (r.1 = true ↔ Vin x (sub ρ t)) := by
  obtain ⟨r, e, _, k⟩ := h.in_list hx t (fun y _ => h.in_var hx y) [] (fun z => by simp [lookA]) (by simp [Vis, lookA])
  refine ⟨r, e.succ fun m hm => by rw [inF_succ]; exact hm, k.yes, fun hv => ?_⟩
  cases hb : r.1 with
  | true => rfl
  | false =>
    exfalso
    have all : ∀ z, Vis r.2 z → ¬ Vin x (ρ z) := by
      refine h.ind (fun z hz hs hv => ?_) (fun z u hz ih hs hv => ?_)
      · rw [h.fr z hz, Vin_var] at hv; subst hv; exact k.not hb hs
      · rw [h.eq z u hz, Vin_sub] at hv
        obtain ⟨y, hy, hv⟩ := hv
        rcases k.shut hb z hs with c | c
        · simp [Vis, lookA] at c
        · exact ih y hy (c u y hz hy) hv
    obtain ⟨y, hy, hv⟩ := Vin_sub.1 hv
    exact all y (k.has hb y hy) hv
end
end Go.Proofs.YtamhkcnpocdfcaaGreatDoor
/- The statements on types, in plain words: what same does: it says what must be, and no more; or there is no way. -/
namespace Go.Proofs.YtamhkcnpocdfcaaGreatDoor

section
variable {V : List Int} {L : Sto} {ρ : Int → List Nd}
theorem Inv.uniq (h : Inv V L ρ) {τ : Int → List Nd} (h2 : Inv V L τ) : τ = ρ := by
  funext k
  refine h.ind (P := fun k => τ k = ρ k) (fun k hk => by rw [h.fr k hk, h2.fr k hk]) (fun k t hk ih => ?_) k
  rw [h.eq k t hk, h2.eq k t hk]; exact sub_congr ih
def sameB (n : Nat) (L : Sto) (a b : List Nd) : Option (Int × Sto) := match a[0]?, b[0]? with
  | some x, some y =>
    if a.length > 4000 ∨ b.length > 4000 then none
    else if x.kind = 31 ∧ y.kind = 31 then (if x.num ≠ y.num then some (0, putA L (max x.num y.num) (varN (min x.num y.num))) else some (0, L))
    else if y.kind = 31 then sameF n L b a
    else if x.kind = 31 then (match inF n L x.num b [] with
      | some (true, _) => some (91, L)
      | some (false, _) => some (0, putA L x.num b)
      | none => none)
    else if x ≠ y then some (91, L)
    else foldO (kidS n a b) (0, L) (List.range (kidsF a 0).length)
  | _, _ => none
theorem sameF_heads {n : Nat} {a0 b0 a b : List Nd} (h1 : headF n L a0 = some a) (h2 : headF n L b0 = some b) : sameF (n + 1) L a0 b0 = sameB n L a b := by
  rw [sameF_succ, h1, h2]; rfl
/-- what comes of it -/
def Res (V : List Int) (L : Sto) (E : (Int → List Nd) → Prop) (r : Int × Sto) : Prop :=
  (r.1 = 0 ∧ (∃ ρ', Inv V r.2 ρ') ∧ (r.2 = L ∨ free V r.2 < free V L) ∧ ∀ σ : Int → List Nd, (∀ x, Whl (σ x)) → (Sat σ r.2 ↔ Sat σ L ∧ E σ)) ∨
  (r.1 = 91 ∧ ∀ σ : Int → List Nd, (∀ x, Whl (σ x)) → ¬ (Sat σ L ∧ E σ))
theorem Res.congr {E F : (Int → List Nd) → Prop} {r : Int × Sto} (h : Res V L E r) (he : ∀ σ : Int → List Nd, (∀ x, Whl (σ x)) → Sat σ L → (E σ ↔ F σ)) : Res V L F r := by
  rcases h with ⟨h1, h2, h3, h4⟩ | ⟨h1, h2⟩
  · refine .inl ⟨h1, h2, h3, fun σ hw => ?_⟩
    rw [h4 σ hw]
    exact ⟨fun ⟨p, q⟩ => ⟨p, (he σ hw p).1 q⟩, fun ⟨p, q⟩ => ⟨p, (he σ hw p).2 q⟩⟩
  · exact .inr ⟨h1, fun σ hw ⟨p, q⟩ => h2 σ hw ⟨p, (he σ hw p).2 q⟩⟩

/-- a variable, and what begins with no variable -/
theorem Inv.same_var (h : Inv V L ρ) {x : Int} (hx : lookA L x = none) (hV : x ∈ V) (hr : Rng x) {n : Nd} {r : List Nd} (hn : n.kind ≠ 31) (hb : Gd V (n :: r)) :
    ∃ q, (Ev fun m => sameB m L [vN x] (n :: r) = some q) ∧ Res V L (fun σ => σ x = sub σ (n :: r)) q := by
  obtain ⟨⟨b, S⟩, e, hi⟩ := h.inF hx (n :: r)
  have hlen : ¬ ([vN x].length > 4000 ∨ (n :: r).length > 4000) := by have := hb.len; simp only [List.length_singleton]; omega
  cases b with
  | true =>
    refine ⟨(91, L), e.mono fun m hm => ?_, .inr ⟨rfl, fun σ _ ⟨hs, he⟩ => ?_⟩⟩
    · simp only [sameB, List.getElem?_cons_zero]
      rw [if_neg hlen, if_neg (fun c => hn c.2), if_neg hn, if_pos (show (vN x).kind = 31 from rfl), show (vN x).num = x from rfl, hm]
    · have hv := hi.1 rfl
      rw [sub_con hn] at hv
      rcases Vin_cons.1 hv with ⟨c, _⟩ | hv
      · exact hn c
      · have h1 := sub_ge (σ := σ) hv
        have h2 := h.absorbL hs (n :: r)
        rw [sub_con hn, sub_con hn, sub_con hn] at h2
        injection h2 with _ h2
        have he : σ x = sub σ (n :: r) := he
        rw [he, sub_con hn, h2, List.length_cons] at h1
        omega
  | false =>
    have hno : ¬ Vin x (sub ρ (n :: r)) := fun c => by cases hi.2 c
    refine ⟨(0, putA L x (n :: r)), e.mono fun m hm => ?_, .inl ⟨rfl, ⟨_, h.put hx hV hr hb (.inr ⟨n, r, rfl, hn⟩) hno⟩, .inr (free_put hx hV), fun σ _ => Sat_put hx⟩⟩
    simp only [sameB, List.getElem?_cons_zero]
    rw [if_neg hlen, if_neg (fun c => hn c.2), if_neg hn, if_pos (show (vN x).kind = 31 from rfl), show (vN x).num = x from rfl, hm]
theorem kid_cut {a : List Nd} {n : Nd} {KK : List (List Nd)} (h : Node a 0 n KK []) {i : Nat} {K : List Nd} (hK : KK[i]? = some K) : ∃ k, (kidsF a 0)[i]? = some k ∧ cutO a k (endF a k) = some K := by
  have h1 := h.kidsEq
  have hi : i < KK.length := (List.getElem?_eq_some_iff.1 hK).1
  have h2 := starts_get (b := ((0 : Nat) : Int) + 1) hi
  rw [← h1] at h2
  obtain ⟨h3, h4⟩ := kid_sub (n := 1) h.next h.whole hK
  refine ⟨_, h2, ?_⟩
  rw [show ((0 : Nat) : Int) + 1 = ((1 : Nat) : Int) from rfl, h3]
  have hl := congrArg List.length h4
  simp only [List.length_drop, List.length_append] at hl
  have hp := Whl.pos (h.whole K (List.mem_of_getElem? hK))
  rw [cutO, if_pos (by omega)]
  rw [show ((1 : Nat) : Int) + ((KK.take i).flatten.length : Nat) + (K.length : Nat) = ((1 + (KK.take i).flatten.length + K.length : Nat) : Int) by omega, show ((1 : Nat) : Int) + ((KK.take i).flatten.length : Nat) = ((1 + (KK.take i).flatten.length : Nat) : Int) by omega, Int.toNat_natCast, Int.toNat_natCast]
  rw [List.drop_take, h4, show 1 + (KK.take i).flatten.length + K.length - (1 + (KK.take i).flatten.length) = K.length by omega, List.take_left]
theorem flat_ge {σ : Int → List Nd} {K : List Nd} : ∀ {KK : List (List Nd)}, K ∈ KK → (sub σ K).length ≤ (sub σ KK.flatten).length
  | [], h => by cases h
  | M :: KK, h => by
    rw [List.flatten_cons, sub_append, List.length_append]
    rcases List.mem_cons.1 h with rfl | h
    · omega
    · have := flat_ge (σ := σ) h; omega
theorem len_ge {K : List Nd} : ∀ {KK : List (List Nd)}, K ∈ KK → K.length ≤ KK.flatten.length
  | [], h => by cases h
  | M :: KK, h => by
    rw [List.flatten_cons, List.length_append]
    rcases List.mem_cons.1 h with rfl | h
    · omega
    · have := len_ge h; omega
theorem Gd.kid {n : Nd} {KK : List (List Nd)} (h : Gd V (n :: KK.flatten)) {K : List Nd} (hK : K ∈ KK) (ht : Ty K) : Gd V K := by
  refine ⟨ht, ?_, fun x hx => h.vs x (Vin_cons.2 (.inr ?_))⟩
  · have := h.len; have := len_ge hK; rw [List.length_cons] at *; omega
  · obtain ⟨m, hm, e⟩ := hx; exact ⟨m, List.mem_flatten.2 ⟨K, hK, hm⟩, e⟩
theorem map_eq_iff {f : List Nd → List Nd} {KK MM : List (List Nd)} (hl : KK.length = MM.length) : KK.map f = MM.map f ↔ ∀ (i : Nat) (K M : List Nd), i ∈ List.range KK.length → KK[i]? = some K → MM[i]? = some M → f K = f M := by
  constructor
  · intro h i K M _ h1 h2
    have := congrArg (·[i]?) h
    simpa [h1, h2] using this
  · intro h
    refine List.ext_getElem? fun i => ?_
    rw [List.getElem?_map, List.getElem?_map]
    by_cases hi : i < KK.length
    · have h1 : KK[i]? = some KK[i] := List.getElem?_eq_getElem hi
      have h2 : MM[i]? = some (MM[i]'(hl ▸ hi)) := List.getElem?_eq_getElem (hl ▸ hi)
      rw [h1, h2, Option.map_some, Option.map_some, h i _ _ (List.mem_range.2 hi) h1 h2]
    · rw [List.getElem?_eq_none (by omega), List.getElem?_eq_none (by omega)]
/-- kid by kid -/
theorem kids_same (V : List Int) {L : Sto} {a b : List Nd} {n m : Nd} {KK MM : List (List Nd)} (ha : Node a 0 n KK []) (hb : Node b 0 m MM []) (hl : KK.length = MM.length)
    (IH : ∀ (i : Nat) (K M : List Nd) (L1 : Sto) (ρ1 : Int → List Nd), KK[i]? = some K → MM[i]? = some M → Inv V L1 ρ1 → (L1 = L ∨ free V L1 < free V L) → ∃ q, (Ev fun m => sameF m L1 K M = some q) ∧ Res V L1 (fun σ => sub σ K = sub σ M) q) :
    ∀ (is : List Nat), (∀ i ∈ is, i < KK.length) → ∀ (L1 : Sto) (ρ1 : Int → List Nd), Inv V L1 ρ1 → (L1 = L ∨ free V L1 < free V L) →
      ∃ q, (Ev fun m => foldO (kidS m a b) (0, L1) is = some q) ∧ Res V L1 (fun σ => ∀ (i : Nat) (K M : List Nd), i ∈ is → KK[i]? = some K → MM[i]? = some M → sub σ K = sub σ M) q
  | [], _, L1, ρ1, hI, hf => ⟨(0, L1), Ev.all fun _ => rfl, .inl ⟨rfl, ⟨ρ1, hI⟩, .inl rfl, fun σ _ => ⟨fun h => ⟨h, fun _ _ _ h => by cases h⟩, fun h => h.1⟩⟩⟩
  | i :: is, hi, L1, ρ1, hI, hf => by
    have hik := hi i List.mem_cons_self
    have h1 : KK[i]? = some KK[i] := List.getElem?_eq_getElem hik
    have h2 : MM[i]? = some (MM[i]'(hl ▸ hik)) := List.getElem?_eq_getElem (hl ▸ hik)
    obtain ⟨k, hk1, hk2⟩ := kid_cut ha h1
    obtain ⟨l, hl1, hl2⟩ := kid_cut hb h2
    obtain ⟨⟨e, L2⟩, he, hr⟩ := IH i _ _ L1 ρ1 h1 h2 hI hf
    have step : ∀ m q, sameF m L1 KK[i] (MM[i]'(hl ▸ hik)) = some q → kidS m a b (0, L1) i = some q := fun m q hq => by
      simp only [kidS, hk1, hl1, hk2, hl2]; rw [if_neg (fun c => c rfl), hq]
    rcases hr with ⟨r1, ⟨ρ2, r2⟩, r3, r4⟩ | ⟨r1, r2⟩
    · simp only at r1 r2 r3 r4
      subst r1
      obtain ⟨q, hq1, hq2⟩ := kids_same V ha hb hl IH is (fun j hj => hi j (List.mem_cons_of_mem _ hj)) L2 ρ2 r2 (by rcases r3 with rfl | r3; exact hf; rcases hf with rfl | hf; exact .inr r3; exact .inr (by omega))
      refine ⟨q, (he.and hq1).mono fun m ⟨p1, p2⟩ => ?_, ?_⟩
      · simp only [foldO, step m _ p1]; exact p2
      · have key : ∀ σ : Int → List Nd, (∀ x, Whl (σ x)) → ((Sat σ L2 ∧ ∀ (i : Nat) (K M : List Nd), i ∈ is → KK[i]? = some K → MM[i]? = some M → sub σ K = sub σ M) ↔ (Sat σ L1 ∧ ∀ (j : Nat) (K M : List Nd), j ∈ i :: is → KK[j]? = some K → MM[j]? = some M → sub σ K = sub σ M)) := fun σ hw => by
          rw [r4 σ hw]
          constructor
          · rintro ⟨⟨s1, s2⟩, s3⟩
            refine ⟨s1, fun j K M hj hK hM => ?_⟩
            rcases List.mem_cons.1 hj with rfl | hj
            · rw [h1] at hK; rw [h2] at hM; injection hK with hK; injection hM with hM; subst hK; subst hM; exact s2
            · exact s3 j K M hj hK hM
          · rintro ⟨s1, s2⟩
            exact ⟨⟨s1, s2 i _ _ List.mem_cons_self h1 h2⟩, fun j K M hj => s2 j K M (List.mem_cons_of_mem _ hj)⟩
        rcases hq2 with ⟨t1, t2, t3, t4⟩ | ⟨t1, t2⟩
        · refine .inl ⟨t1, t2, by rcases t3 with e | t3; rw [e]; exact r3; rcases r3 with rfl | r3; exact .inr t3; exact .inr (by omega), fun σ hw => (t4 σ hw).trans (key σ hw)⟩
        · exact .inr ⟨t1, fun σ hw c => t2 σ hw ((key σ hw).2 c)⟩
    · simp only at r1 r2
      subst r1
      refine ⟨(91, L2), he.mono fun m hm => ?_, .inr ⟨rfl, fun σ hw ⟨s1, s2⟩ => r2 σ hw ⟨s1, s2 i _ _ List.mem_cons_self h1 h2⟩⟩⟩
      simp only [foldO, step m _ hm]
      have : ∀ l : List Nat, foldO (kidS m a b) (91, L2) l = some (91, L2) := by
        intro l
        induction l with
        | nil => rfl
        | cons j l ihl => simp only [foldO, kidS]; rw [if_pos (by simp)]; exact ihl
      exact this is
/-- the head alone -/
theorem head_self {b : List Nd} (h : (∃ x, b = [vN x] ∧ lookA L x = none) ∨ ∃ n r, b = n :: r ∧ n.kind ≠ 31) : Ev fun m => headF m L b = some b := by
  rcases h with ⟨x, rfl, hx⟩ | ⟨n, r, rfl, hn⟩
  · exact (Ev.all (P := fun _ => True) fun _ => trivial).succ fun m _ => by rw [headF_var, hx]
  · exact (Ev.all (P := fun _ => True) fun _ => trivial).succ fun m _ => headF_con m L r hn
theorem Inv.same : ∀ (u s : Nat) (L : Sto) (ρ : Int → List Nd) (a b : List Nd), Inv V L ρ → free V L = u → (sub ρ a).length = s → Gd V a → Gd V b →
    ∃ q, (Ev fun m => sameF m L a b = some q) ∧ Res V L (fun σ => sub σ a = sub σ b) q := by
  intro u
  induction u using Nat.strongRecOn with
  | _ u ih1 =>
  intro s
  induction s using Nat.strongRecOn with
  | _ s ih2 =>
  intro L ρ a0 b0 h hu hs ha0 hb0
  obtain ⟨a, ea, ha⟩ := h.head ha0
  obtain ⟨b, eb, hb⟩ := h.head hb0
  have toB : ∀ q, (Ev fun m => sameB m L a b = some q) → Ev fun m => sameF m L a0 b0 = some q := fun q hq => ((ea.and eb).and hq).succ fun m ⟨⟨p1, p2⟩, p3⟩ => by rw [sameF_heads p1 p2, p3]
  have toE : ∀ q, Res V L (fun σ => sub σ a = sub σ b) q → Res V L (fun σ => sub σ a0 = sub σ b0) q := fun q hq => hq.congr fun σ _ hs => by rw [ha.eq σ hs, hb.eq σ hs]
  suffices hmain : ∃ q, (Ev fun m => sameB m L a b = some q) ∧ Res V L (fun σ => sub σ a = sub σ b) q by
    obtain ⟨q, q1, q2⟩ := hmain; exact ⟨q, toB q q1, toE q q2⟩
  have hla := ha.gd.len
  have hlb := hb.gd.len
  have hlen : ¬ (a.length > 4000 ∨ b.length > 4000) := by omega
  rcases ha.is with ⟨x, rfl, hx, hxV, hxr⟩ | ⟨n, r, rfl, hn⟩
  · rcases hb.is with ⟨y, rfl, hy, hyV, hyr⟩ | ⟨m, r2, rfl, hm⟩
    · by_cases hxy : x = y
      · subst hxy
        refine ⟨(0, L), Ev.all fun m => ?_, .inl ⟨rfl, ⟨ρ, h⟩, .inl rfl, fun σ _ => ⟨fun c => ⟨c, rfl⟩, fun c => c.1⟩⟩⟩
        simp only [sameB, List.getElem?_cons_zero]
        rw [if_neg hlen, if_pos ⟨rfl, rfl⟩, if_neg (fun c => c rfl)]
      · refine ⟨(0, putA L (max x y) [vN (min x y)]), Ev.all fun m => ?_, ?_⟩
        · simp only [sameB, List.getElem?_cons_zero]
          rw [if_neg hlen, if_pos ⟨rfl, rfl⟩, if_pos (show (vN x).num ≠ (vN y).num from hxy)]
          rfl
        · have go : ∀ x y : Int, lookA L x = none → lookA L y = none → x ∈ V → y ∈ V → Rng x → Rng y → x < y → Res V L (fun σ => σ y = σ x) (0, putA L y [vN x]) := fun x y hx hy hxV hyV hxr hyr hlt => by
            refine .inl ⟨rfl, ⟨_, h.put hy hyV hyr ⟨Ty_var hxr, by simp, fun z hz => by rw [Vin_var] at hz; subst hz; exact hxV⟩ (.inl ⟨x, rfl, hlt⟩) (fun c => ?_)⟩, .inr (free_put hy hyV), fun σ _ => ?_⟩
            · rw [sub_var, h.fr x hx, Vin_var] at c; omega
            · rw [Sat_put hy, sub_var]
          rcases Int.lt_or_gt_of_ne hxy with hlt | hlt
          · rw [Int.max_eq_right (by omega), Int.min_eq_left (by omega)]
            exact (go x y hx hy hxV hyV hxr hyr hlt).congr fun σ _ _ => by rw [sub_var, sub_var]; exact eq_comm
          · rw [Int.max_eq_left (by omega), Int.min_eq_right (by omega)]
            exact (go y x hy hx hyV hxV hyr hxr hlt).congr fun σ _ _ => by rw [sub_var, sub_var]
    · obtain ⟨q, q1, q2⟩ := h.same_var hx hxV hxr hm hb.gd
      exact ⟨q, q1, q2.congr fun σ _ _ => by rw [sub_var]⟩
  · rcases hb.is with ⟨y, rfl, hy, hyV, hyr⟩ | ⟨m, r2, rfl, hm⟩
    · obtain ⟨q, q1, q2⟩ := h.same_var hy hyV hyr hn ha.gd
      have e1 := head_self (L := L) (.inl ⟨y, rfl, hy⟩)
      have e2 := head_self (L := L) (.inr ⟨n, r, rfl, hn⟩)
      have e3 : Ev fun m => sameF m L [vN y] (n :: r) = some q := ((e1.and e2).and q1).succ fun m ⟨⟨p1, p2⟩, p3⟩ => by rw [sameF_heads p1 p2, p3]
      refine ⟨q, e3.mono fun m hm => ?_, q2.congr fun σ _ _ => by rw [sub_var]; exact eq_comm⟩
      simp only [sameB, List.getElem?_cons_zero]
      rw [if_neg hlen, if_neg (fun c => hn c.1), if_pos (show (vN y).kind = 31 from rfl)]; exact hm
    · rcases ha.gd.ty.cases with ⟨x, e, _⟩ | ⟨n', KK, e, _, hnk, hKK, hN⟩
      · injection e with e _; subst e; exact absurd rfl hn
      injection e with e1 e2; subst e1; subst e2
      rcases hb.gd.ty.cases with ⟨x, e, _⟩ | ⟨m', MM, e, _, hmk, hMM, hM⟩
      · injection e with e _; subst e; exact absurd rfl hm
      injection e with e1 e2; subst e1; subst e2
      by_cases hnm : n = m
      · subst hnm
        have hl : KK.length = MM.length := by omega
        have hsz : ∀ K ∈ KK, (sub ρ K).length < s := fun K hK => by
          have h1 := ha.eq ρ h.sat
          rw [sub_con hn] at h1
          have h2 := flat_ge (σ := ρ) hK
          rw [← hs, ← h1, List.length_cons]; omega
        obtain ⟨q, q1, q2⟩ := kids_same V (L := L) hN hM hl (fun i K M L1 ρ1 hK hM2 hI hf => by
          have hKm := List.mem_of_getElem? hK
          have hMm := List.mem_of_getElem? hM2
          rcases hf with rfl | hf
          · rw [h.uniq hI] at *
            exact ih2 _ (hsz K hKm) L1 ρ K M h hu rfl (ha.gd.kid hKm (hKK K hKm)) (hb.gd.kid hMm (hMM M hMm))
          · exact ih1 _ (by omega) _ L1 ρ1 K M hI rfl rfl (ha.gd.kid hKm (hKK K hKm)) (hb.gd.kid hMm (hMM M hMm)))
          (List.range KK.length) (fun i hi => List.mem_range.1 hi) L ρ h (.inl rfl)
        refine ⟨q, q1.mono fun k hk => ?_, q2.congr fun σ hw _ => ?_⟩
        · simp only [sameB, List.getElem?_cons_zero]
          have hkl : (kidsF (n :: KK.flatten) 0).length = KK.length := by
            have := hN.kidsEq
            rw [show ((0 : Nat) : Int) = 0 from rfl] at this
            rw [this, starts_len]
          rw [if_neg hlen, if_neg (fun c => hn c.1), if_neg hn, if_neg hn, if_neg (fun c => c rfl), hkl]; exact hk
        · rw [con_sub_iff hw hn hn hnk hmk hKK hMM, map_eq_iff hl]
          exact ⟨fun c => ⟨rfl, c⟩, fun c => c.2⟩
      · refine ⟨(91, L), Ev.all fun k => ?_, .inr ⟨rfl, fun σ _ ⟨_, c⟩ => ?_⟩⟩
        · simp only [sameB, List.getElem?_cons_zero]
          rw [if_neg hlen, if_neg (fun c => hn c.1), if_neg hm, if_neg hn, if_pos hnm]
        · have c : sub σ (n :: KK.flatten) = sub σ (m :: MM.flatten) := c
          rw [sub_con hn, sub_con hm] at c
          injection c with c _; exact hnm c
end
/-- the most general one, or none -/
theorem mgu {V : List Int} {a b : List Nd} (ha : Gd V a) (hb : Gd V b) :
    (∃ L ρ, (Ev fun m => sameF m [] a b = some (0, L)) ∧ Inv V L ρ ∧ ∀ σ : Int → List Nd, (∀ x, Whl (σ x)) → (Sat σ L ↔ sub σ a = sub σ b)) ∨
    ∃ L, (Ev fun m => sameF m [] a b = some (91, L)) ∧ ∀ σ : Int → List Nd, (∀ x, Whl (σ x)) → sub σ a ≠ sub σ b := by
  have hnil : ∀ σ, Sat σ [] := fun σ k t h => by cases h
  obtain ⟨⟨e, L⟩, h1, h2⟩ := Inv.same _ _ [] _ a b (Inv.nil V) rfl rfl ha hb
  rcases h2 with ⟨r1, ⟨ρ, r2⟩, _, r4⟩ | ⟨r1, r2⟩
  · simp only at r1 r2 r4; subst r1
    exact .inl ⟨L, ρ, h1, r2, fun σ hw => (r4 σ hw).trans ⟨fun c => c.2, fun c => ⟨hnil σ, c⟩⟩⟩
  · simp only at r1 r2; subst r1
    exact .inr ⟨L, h1, fun σ hw c => r2 σ hw ⟨hnil σ, c⟩⟩
end Go.Proofs.YtamhkcnpocdfcaaGreatDoor
/- The statements on types, in plain words: what Unify answers, and that it is the same whichever is the first. -/
namespace Go.Proofs.YtamhkcnpocdfcaaGreatDoor

theorem ty_of {L : List Nd} (h : okT L = true) : Ty L := by
  obtain ⟨_, h2, h3⟩ := okT_len h
  have h4 : ∀ n ∈ L, rightN n = true := List.all_eq_true.1 h3
  exact ⟨(whole_cns L).1 h2, fun n hn hk => right_leaf (h4 n hn) hk, h4⟩
theorem ok_of {L : List Nd} (h : Ty L) (hl : L.length ≤ 4000) : okT L = true := by
  rw [okT, decide_eq_true hl, (whole_cns L).2 h.whl, List.all_eq_true.2 h.rt]; rfl
theorem ck_ok {L : List Nd} : ckT L = 0 ↔ okT L = true := by
  unfold ckT; split
  · simp [*]
  · constructor
    · intro h; cases h
    · intro h; exact absurd h ‹_›
theorem Gd_of {V : List Int} {L : List Nd} (h : okT L = true) (hv : ∀ x, Vin x L → x ∈ V) : Gd V L := ⟨ty_of h, (okT_len h).1, hv⟩
def vsL (L : List Nd) : List Int := L.map Nd.num
theorem vsL_in {x : Int} {L : List Nd} (h : Vin x L) : x ∈ vsL L := by obtain ⟨n, hn, _, rfl⟩ := h; exact List.mem_map.2 ⟨n, hn, rfl⟩

/-- one binding of a store, resolved -/
def bdR (ρ : Int → List Nd) (p : Int × List Nd) : Bd := ⟨p.1, ρ p.1⟩
def bindsOf (L : Sto) (ρ : Int → List Nd) : List Bd := (L.map (bdR ρ)).mergeSort (fun x y => decide (x.var ≤ y.var))
theorem bindsOf_perm (L : Sto) (ρ : Int → List Nd) : (bindsOf L ρ).Perm (L.map (bdR ρ)) := List.mergeSort_perm _ _
section
variable {V : List Int} {L : Sto} {ρ : Int → List Nd}
theorem bindsOf_mem {b : Bd} (h : Inv V L ρ) : b ∈ bindsOf L ρ ↔ (∃ t, lookA L b.var = some t) ∧ b.ty = ρ b.var := by
  rw [(bindsOf_perm L ρ).mem_iff, List.mem_map]
  constructor
  · rintro ⟨p, hp, rfl⟩; exact ⟨⟨p.2, lookA_of_mem h.nd hp⟩, rfl⟩
  · rintro ⟨⟨t, ht⟩, h2⟩
    refine ⟨(b.var, t), lookA_mem ht, ?_⟩
    cases b; simp only [bdR] at *; rw [h2]
theorem bindsOf_sorted (h : Inv V L ρ) : (bindsOf L ρ).Pairwise (fun x y => x.var < y.var) := by
  have h1 : (bindsOf L ρ).Pairwise (fun x y => decide (x.var ≤ y.var) = true) := List.pairwise_mergeSort (fun a b c h1 h2 => by have := of_decide_eq_true h1; have := of_decide_eq_true h2; exact decide_eq_true (by omega)) (fun a b => by
    rcases Int.le_total a.var b.var with h | h
    · simp [h]
    · simp [h]) _
  have h2 : ((bindsOf L ρ).map Bd.var).Nodup := by
    have := (bindsOf_perm L ρ).map Bd.var
    rw [this.nodup_iff, List.map_map]; exact h.nd
  rw [List.Nodup, List.pairwise_map] at h2
  exact (h1.and h2).imp fun ⟨a, b⟩ => by have := of_decide_eq_true a; omega
theorem strict_eq : ∀ {a b : List Bd}, a.Pairwise (fun x y => x.var < y.var) → b.Pairwise (fun x y => x.var < y.var) → (∀ x, x ∈ a ↔ x ∈ b) → a = b
  | [], [], _, _, _ => rfl
  | [], y :: b, _, _, h => by have := (h y).2 List.mem_cons_self; cases this
  | x :: a, [], _, _, h => by have := (h x).1 List.mem_cons_self; cases this
  | x :: a, y :: b, ha, hb, h => by
    obtain ⟨ha1, ha2⟩ := List.pairwise_cons.1 ha
    obtain ⟨hb1, hb2⟩ := List.pairwise_cons.1 hb
    have e : x = y := by
      rcases List.mem_cons.1 ((h x).1 List.mem_cons_self) with e | e
      · exact e
      · rcases List.mem_cons.1 ((h y).2 List.mem_cons_self) with e2 | e2
        · exact e2.symm
        · have := hb1 x e; have := ha1 y e2; omega
    subst e
    rw [strict_eq ha2 hb2 fun z => ?_]
    constructor
    · intro hz
      rcases List.mem_cons.1 ((h z).1 (List.mem_cons_of_mem _ hz)) with e | e
      · subst e; have := ha1 z hz; omega
      · exact e
    · intro hz
      rcases List.mem_cons.1 ((h z).2 (List.mem_cons_of_mem _ hz)) with e | e
      · subst e; have := hb1 z hz; omega
      · exact e

/-! ### there is but one -/
theorem Inv.var_le (h : Inv V L ρ) : ∀ k j, ρ k = [vN j] → j ≤ k := by
  refine h.ind (fun k hk j e => ?_) (fun k t hk ih j e => ?_)
  · rw [h.fr k hk] at e
    injection e with e _; have : k = j := congrArg Nd.num e
    omega
  · rw [h.eq k t hk] at e
    rcases h.dn k t hk with ⟨i, rfl, hi⟩ | ⟨n, r, rfl, hn⟩
    · rw [sub_var] at e
      have := ih i (Vin_var.2 rfl) j e; omega
    · rw [sub_con hn] at e; injection e with e _; exact absurd (congrArg Nd.kind e) hn
theorem Inv.is_var (h : Inv V L ρ) (k : Int) : (∃ j, ρ k = [vN j]) ∨ ∃ n r, ρ k = n :: r ∧ n.kind ≠ 31 := by
  cases hk : lookA L k with
  | none => exact .inl ⟨k, h.fr k hk⟩
  | some t =>
    have hg := (h.gd k t hk).ty
    rw [h.eq k t hk]
    rcases (h.tyL hg).cases with ⟨x, e, _⟩ | ⟨n, KK, e, hn, _⟩
    · exact .inl ⟨x, e⟩
    · exact .inr ⟨n, _, e, hn⟩
theorem Inv.fix (h : Inv V L ρ) {W : List Int} {M : Sto} {τ : Int → List Nd} (h2 : Inv W M τ) (h12 : ∀ k, sub ρ (τ k) = ρ k) {k : Int} (hk : lookA L k = none) : τ k = [vN k] := by
  have e := h12 k
  rw [h.fr k hk] at e
  rcases h2.is_var k with ⟨j, hj⟩ | ⟨n, r, hj, hn⟩
  · rw [hj, sub_var] at e
    have h3 := h.var_le j k e
    have h4 := h2.var_le k j hj
    have : j = k := by omega
    subst this; exact hj
  · rw [hj, sub_con hn] at e
    injection e with e _; exact absurd (congrArg Nd.kind e) hn
theorem Inv.one (h : Inv V L ρ) {W : List Int} {M : Sto} {τ : Int → List Nd} (h2 : Inv W M τ) (hs : ∀ σ : Int → List Nd, (∀ x, Whl (σ x)) → (Sat σ L ↔ Sat σ M)) : τ = ρ ∧ ∀ k, (lookA L k).isSome = (lookA M k).isSome := by
  have s1 : Sat ρ M := (hs ρ h.whl).1 h.sat
  have s2 : Sat τ L := (hs τ h2.whl).2 h2.sat
  have a1 := h2.absorb s1
  have a2 := h.absorb s2
  have e : ∀ k, τ k = ρ k := fun k => by
    cases hk : lookA L k with
    | none => rw [h.fr k hk]; exact h.fix h2 a1 hk
    | some t =>
      rw [← a2 k]
      have ht : Ty (ρ k) := by rw [h.eq k t hk]; exact h.tyL (h.gd k t hk).ty
      exact sub_id ht.lf fun x hx => h.fix h2 a1 (h.unb k x hx)
  refine ⟨funext e, fun k => ?_⟩
  have no : ∀ {V : List Int} {L : Sto} {ρ : Int → List Nd}, Inv V L ρ → ∀ k t, lookA L k = some t → ρ k ≠ [vN k] := fun {V L ρ} h k t hk c => by
    have := h.unb k k (by rw [c]; exact Vin_var.2 rfl)
    rw [hk] at this; cases this
  cases hk : lookA L k with
  | none =>
    cases hm : lookA M k with
    | none => rfl
    | some t => exact absurd ((e k).trans (h.fr k hk)) (no h2 k t hm)
  | some t =>
    cases hm : lookA M k with
    | none => exact absurd ((e k).symm.trans (h2.fr k hm)) (no h k t hk)
    | some u => rfl
/-- what Apply makes of a type -/
theorem apply_is (h : Inv V L ρ) {t : List Nd} (hl : Lf t) : applyF (bindsOf L ρ) t = sub ρ t := by
  unfold applyF sub
  have : ∀ n ∈ t, app1 (bindsOf L ρ) n = sub1 ρ n := fun n hn => by
    unfold app1 sub1
    by_cases hk : n.kind = 31
    · rw [if_pos hk, if_pos hk]
      cases hf : (bindsOf L ρ).find? (fun b => decide (b.var = n.num)) with
      | none =>
        have hno : lookA L n.num = none := by
          cases hq : lookA L n.num with
          | none => rfl
          | some u =>
            have h1 := List.find?_eq_none.1 hf ⟨n.num, ρ n.num⟩ ((bindsOf_mem h).2 ⟨⟨u, hq⟩, rfl⟩)
            exact absurd (decide_eq_true rfl) h1
        have e := (hl n hn hk).1
        rw [h.fr _ hno, ← e]
      | some b =>
        have h0 : decide (b.var = n.num) = true := by have h9 := List.find?_some hf; exact h9
        have h1 := of_decide_eq_true h0
        have h2 := ((bindsOf_mem h).1 (List.mem_of_find?_eq_some hf)).2
        show b.ty = _
        rw [h2, h1]
    · rw [if_neg hk, if_neg hk]
  induction t with
  | nil => rfl
  | cons n r ih =>
    rw [List.flatMap_cons, List.flatMap_cons, this n List.mem_cons_self, ih (fun m hm => hl m (List.mem_cons_of_mem _ hm)) (fun m hm => this m (List.mem_cons_of_mem _ hm))]
end

/-- what Unify answers -/
inductive UR (a b : List Nd) : List Bd → Int → Prop
  | bad : (ckT a ≠ 0 ∨ ckT b ≠ 0) → UR a b [] 90
  | no : ckT a = 0 → ckT b = 0 → (∀ σ : Int → List Nd, (∀ x, Whl (σ x)) → sub σ a ≠ sub σ b) → UR a b [] 91
  | big (V : List Int) (L : Sto) (ρ : Int → List Nd) : ckT a = 0 → ckT b = 0 → Inv V L ρ → (∀ σ : Int → List Nd, (∀ x, Whl (σ x)) → (Sat σ L ↔ sub σ a = sub σ b)) → (∃ k t, lookA L k = some t ∧ 4000 < (ρ k).length) → UR a b [] 92
  | yes (V : List Int) (L : Sto) (ρ : Int → List Nd) : ckT a = 0 → ckT b = 0 → Inv V L ρ → (∀ σ : Int → List Nd, (∀ x, Whl (σ x)) → (Sat σ L ↔ sub σ a = sub σ b)) → (∀ k t, lookA L k = some t → (ρ k).length ≤ 4000) → UR a b (bindsOf L ρ) 0
theorem UR.turn {a b : List Nd} {l m : List Bd} {e f : Int} (h : UR a b l e) (h2 : UR b a m f) : l = m ∧ e = f := by
  cases h with
  | bad hc =>
    cases h2 with
    | bad _ => exact ⟨rfl, rfl⟩
    | no h1 h2 _ => omega
    | big _ _ _ h1 h2 => omega
    | yes _ _ _ h1 h2 => omega
  | no c1 c2 hn =>
    cases h2 with
    | bad _ => omega
    | no _ _ _ => exact ⟨rfl, rfl⟩
    | big V L ρ _ _ hI hs _ => exact absurd ((hs ρ hI.whl).1 hI.sat).symm (hn ρ hI.whl)
    | yes V L ρ _ _ hI hs _ => exact absurd ((hs ρ hI.whl).1 hI.sat).symm (hn ρ hI.whl)
  | big V L ρ c1 c2 hI hs hg =>
    have one : ∀ {W : List Int} {M : Sto} {τ : Int → List Nd}, Inv W M τ → (∀ σ : Int → List Nd, (∀ x, Whl (σ x)) → (Sat σ M ↔ sub σ b = sub σ a)) → τ = ρ ∧ ∀ k, (lookA L k).isSome = (lookA M k).isSome := fun hJ ht => hI.one hJ fun σ hw => (hs σ hw).trans (eq_comm.trans (ht σ hw).symm)
    cases h2 with
    | bad _ => omega
    | no _ _ hn => exact absurd ((hs ρ hI.whl).1 hI.sat).symm (hn ρ hI.whl)
    | big _ _ _ _ _ _ _ _ => exact ⟨rfl, rfl⟩
    | yes W M τ _ _ hJ ht hg2 =>
      obtain ⟨rfl, hd⟩ := one hJ ht
      obtain ⟨k, t, hk, hlt⟩ := hg
      have := hd k
      rw [hk] at this
      cases hq : lookA M k with
      | none => rw [hq] at this; cases this
      | some u => have := hg2 k u hq; omega
  | yes V L ρ c1 c2 hI hs hg =>
    have one : ∀ {W : List Int} {M : Sto} {τ : Int → List Nd}, Inv W M τ → (∀ σ : Int → List Nd, (∀ x, Whl (σ x)) → (Sat σ M ↔ sub σ b = sub σ a)) → τ = ρ ∧ ∀ k, (lookA L k).isSome = (lookA M k).isSome := fun hJ ht => hI.one hJ fun σ hw => (hs σ hw).trans (eq_comm.trans (ht σ hw).symm)
    cases h2 with
    | bad _ => omega
    | no _ _ hn => exact absurd ((hs ρ hI.whl).1 hI.sat).symm (hn ρ hI.whl)
    | big W M τ _ _ hJ ht hg2 =>
      obtain ⟨rfl, hd⟩ := one hJ ht
      obtain ⟨k, t, hk, hlt⟩ := hg2
      have := hd k
      rw [hk] at this
      cases hq : lookA L k with
      | none => rw [hq] at this; cases this
      | some u => have := hg k u hq; omega
    | yes W M τ _ _ hJ ht hg2 =>
      obtain ⟨rfl, hd⟩ := one hJ ht
      refine ⟨strict_eq (bindsOf_sorted hI) (bindsOf_sorted hJ) fun x => ?_, rfl⟩
      rw [bindsOf_mem hI, bindsOf_mem hJ, ← Option.isSome_iff_exists, ← Option.isSome_iff_exists, hd]
theorem few_strict : ∀ (l : List Bd) (a b : Int), l.Pairwise (fun x y => x.var < y.var) → (∀ x ∈ l, a ≤ x.var ∧ x.var ≤ b) → (l.length : Int) ≤ max 0 (b - a + 1)
  | [], _, _, _, _ => by simp only [List.length_nil]; omega
  | x :: l, a, b, hp, hb => by
    obtain ⟨h1, h2⟩ := List.pairwise_cons.1 hp
    have ih := few_strict l (x.var + 1) b h2 fun y hy => ⟨by have := h1 y hy; omega, (hb y (List.mem_cons_of_mem _ hy)).2⟩
    have := hb x List.mem_cons_self
    simp only [List.length_cons]; omega
theorem sorted_at {l : List Bd} (h : l.Pairwise (fun x y => x.var < y.var)) {i j : Nat} {x y : Bd} (hi : l[i]? = some x) (hj : l[j]? = some y) (hij : i < j) : x.var < y.var := by
  obtain ⟨h1, rfl⟩ := List.getElem?_eq_some_iff.1 hi
  obtain ⟨h2, rfl⟩ := List.getElem?_eq_some_iff.1 hj
  exact List.pairwise_iff_getElem.1 h i j h1 h2 hij
/-- what was made the same is the same -/
structure Made (a b : List Nd) (l : List Bd) : Prop where
  sorted : l.Pairwise (fun x y => x.var < y.var)
  len : ∀ x ∈ l, x.ty.length ≤ 4000
  few : l.length ≤ 1048577
  idem : ∀ x ∈ l, applyF l x.ty = x.ty
  same : applyF l a = applyF l b
  again : (applyF l a).length ≤ 4000 → ∀ m f, UR (applyF l a) (applyF l b) m f → m = [] ∧ f = 0
theorem UR.made {a b : List Nd} {l : List Bd} {e : Int} (h : UR a b l e) : (e ≠ 0 ∧ l = []) ∨ (e = 0 ∧ Made a b l) := by
  cases h with
  | bad _ => exact .inl ⟨by decide, rfl⟩
  | no _ _ _ => exact .inl ⟨by decide, rfl⟩
  | big _ _ _ _ _ _ _ _ => exact .inl ⟨by decide, rfl⟩
  | yes V L ρ c1 c2 hI hs hg =>
    have ta := ty_of (ck_ok.1 c1)
    have tb := ty_of (ck_ok.1 c2)
    have hab := (hs ρ hI.whl).1 hI.sat
    have hsame : applyF (bindsOf L ρ) a = applyF (bindsOf L ρ) b := by rw [apply_is hI ta.lf, apply_is hI tb.lf]; exact hab
    have few : (bindsOf L ρ).length ≤ 1048577 := by
      have := few_strict (bindsOf L ρ) 0 1048576 (bindsOf_sorted hI) fun x hx => by
        obtain ⟨⟨t, ht⟩, _⟩ := (bindsOf_mem hI).1 hx
        exact (hI.ky _ (lookA_mem ht)).2
      omega
    refine .inr ⟨rfl, bindsOf_sorted hI, fun x hx => ?_, few, fun x hx => ?_, hsame, fun hl m f hu => ?_⟩
    · obtain ⟨⟨t, ht⟩, e⟩ := (bindsOf_mem hI).1 hx
      rw [e]; exact hg _ t ht
    · obtain ⟨⟨t, ht⟩, e⟩ := (bindsOf_mem hI).1 hx
      have hty : Ty (ρ x.var) := by rw [hI.eq _ t ht]; exact hI.tyL (hI.gd _ t ht).ty
      rw [e, apply_is hI hty.lf]; exact hI.absorb hI.sat _
    · rw [← hsame] at hu
      have hx : okT (applyF (bindsOf L ρ) a) = true := ok_of (by rw [apply_is hI ta.lf]; exact hI.tyL ta) hl
      have nil : ∀ {W : List Int} {M : Sto} {τ : Int → List Nd} {x : List Nd}, Inv W M τ → (∀ σ : Int → List Nd, (∀ x, Whl (σ x)) → (Sat σ M ↔ sub σ x = sub σ x)) → M = [] := fun {W M τ x} hJ ht => by
        cases M with
        | nil => rfl
        | cons p M =>
          have h1 : lookA (p :: M) p.1 = some p.2 := lookA_of_mem hJ.nd List.mem_cons_self
          have h2 : Sat (fun k => [vN k]) (p :: M) := (ht (fun k => [vN k]) (fun _ => rfl)).2 rfl
          have h3 := h2 _ _ h1
          rw [sub_id (hJ.gd _ _ h1).ty.lf (fun _ _ => rfl)] at h3
          rcases hJ.dn _ _ h1 with ⟨j, e, hj⟩ | ⟨n, r, e, hn⟩
          · rw [e] at h3; injection h3 with h3 _; have : p.1 = j := congrArg Nd.num h3; omega
          · rw [e] at h3; injection h3 with h3 _; exact absurd (congrArg Nd.kind h3).symm hn
      cases hu with
      | bad h => have := ck_ok.2 hx; omega
      | no _ _ hn => exact absurd rfl (hn ρ hI.whl)
      | big W M τ _ _ hJ ht hg2 =>
        have := nil hJ ht; subst this
        obtain ⟨k, t, hk, _⟩ := hg2; cases hk
      | yes W M τ _ _ hJ ht _ =>
        have := nil hJ ht; subst this
        exact ⟨by simp [bindsOf], rfl⟩
end Go.Proofs.YtamhkcnpocdfcaaGreatDoor
/- The statements on types: the walks of the store's Unify and Resolve. -/
namespace Go.Proofs.YtamhkcnpocdfcaaGreatDoor
open Go.Sx
/-- the store's Unify -/
def uniF (n : Nat) (L : Sto) (a b : List Nd) : Option (Int × Sto) := if ckT a ≠ 0 ∨ ckT b ≠ 0 then some (90, L) else sameF n L a b

attribute [local irreducible] hasBody Program.underlying Ylds astep alex alexE alexD awp PCall FCall RCall MCall QCall athen ablock ajump rpost fpost mpost rpostC
set_option maxHeartbeats 2000000 in
theorem SUnify_ok (nx : Int) (n : Nat) (L : Sto) (a b : List Nd) (e : Int) (L' : Sto) (hla : a.length ≤ 2000000) (hlb : b.length ≤ 2000000) (hL : StoB L) (h : uniF n L a b = some (e, L')) :
    MCall Tryz.prog 24 [.ptr 0 0, .d (nodes a), .d (nodes b)] (stO nx L) (.d (i64 e)) (stO nx L') := by
  refine mcall_of Tryz.func24 rfl Tryz.ntmps24 Tryz.results24 rfl rfl rfl ?_
  intro wb St0 X fx
  unfold uniF at h
  by_cases hca : ckT a = 0
  · by_cases hcb : ckT b = 0
    · rw [if_neg (by omega)] at h
      have hs := same_ok nx n L a b e L' hL h
      repeat' first
        | refine en_n ?_
        | refine awp_seq ?_
        | refine awp_region ?_
        | refine alex_nil ?_
        | refine w0 ?_
        | (apply Y_neqF; exact rfl; exact rfl; first | assumption | omega)
        | (apply Y_call (hb := hb_Check) (hc := Check_ok a hla); exact CoL_d rfl CoL_nil)
        | (apply Y_call (hb := hb_Check) (hc := Check_ok b hlb); exact CoL_d rfl CoL_nil)
        | (refine aMCall [0, 1] hb_same (hs) ?_ rfl rfl (by decide) rfl rfl rfl rfl rfl rfl ?_; (repeat (refine SArgs_cons rfl ?_)); exact SArgs_nil)
        | apply ay (hd := rfl)
        | (apply Y_move_d; exact rfl)
        | (apply Y_assign_d; exact rfl)
        | (apply Y_pick_f; exact rfl; exact rfl)
        | (apply Y_move_ptr; exact rfl)
        | (apply w1; exact rfl; exact rfl)
        | (apply awp_condF; exact rfl)
        | refine awp_skip ?_
        | refine awp_ret ?_
      exact mpost_ret (Fits_mk (Le_cons rfl Le_nil) (Pre_cons rfl rfl (Pre_cons rfl rfl Pre_nil)) rfl rfl)
    · rw [if_pos (.inr hcb)] at h
      injection h with h; injection h with h1 h2; subst h1; subst h2
      repeat' first
        | refine en_n ?_
        | refine awp_seq ?_
        | refine awp_region ?_
        | refine alex_nil ?_
        | refine w0 ?_
        | (apply Y_neqT; exact rfl; exact rfl; first | assumption | omega)
        | (apply Y_neqF; exact rfl; exact rfl; first | assumption | omega)
        | (apply Y_call (hb := hb_Check) (hc := Check_ok a hla); exact CoL_d rfl CoL_nil)
        | (apply Y_call (hb := hb_Check) (hc := Check_ok b hlb); exact CoL_d rfl CoL_nil)
        | apply ay (hd := rfl)
        | (apply Y_move_d; exact rfl)
        | (apply Y_assign_d; exact rfl)
        | (apply Y_pick_f; exact rfl; exact rfl)
        | (apply w1; exact rfl; exact rfl)
        | (apply awp_condT; exact rfl)
        | refine awp_ret ?_
        | refine en_r ?_
      exact mpost_ret (Fits_mk (Le_cons rfl Le_nil) (Pre_cons rfl rfl (Pre_cons rfl rfl Pre_nil)) rfl rfl)
  · rw [if_pos (.inl hca)] at h
    injection h with h; injection h with h1 h2; subst h1; subst h2
    repeat' first
      | refine en_n ?_
      | refine awp_seq ?_
      | refine awp_region ?_
      | refine alex_nil ?_
      | refine w0 ?_
      | (apply k0u (hd := rfl); exact rfl; exact rfl)
      | (apply Y_neqT; exact rfl; exact rfl; first | assumption | omega)
      | (apply Y_call (hb := hb_Check) (hc := Check_ok a hla); exact CoL_d rfl CoL_nil)
      | apply ay (hd := rfl)
      | (apply Y_move_d; exact rfl)
      | (apply Y_assign_d; exact rfl)
      | (apply Y_pick_t; exact rfl; exact rfl)
      | (apply awp_condT; exact rfl)
      | refine awp_ret ?_
      | refine en_r ?_
    exact mpost_ret (Fits_mk (Le_cons rfl Le_nil) (Pre_cons rfl rfl (Pre_cons rfl rfl Pre_nil)) rfl rfl)

set_option maxHeartbeats 2000000 in
theorem Resolve_bad (nx : Int) (L : Sto) (t : List Nd) (ht : t.length ≤ 2000000) (hc : ckT t ≠ 0) :
    MCall Tryz.prog 25 [.ptr 0 0, .d (nodes t)] (stO nx L) (.pair .nil (.d (i64 (ckT t)))) (stO nx L) := by
  refine mcall_of Tryz.func25 rfl Tryz.ntmps25 Tryz.results25 rfl rfl rfl ?_
  intro wb St0 X fx
  repeat' first
    | refine en_n ?_
    | refine awp_seq ?_
    | refine awp_region ?_
    | refine alex_nil ?_
    | refine w0 ?_
    | (apply Y_neqT; exact rfl; exact rfl; first | assumption | omega)
    | (apply Y_call (hb := hb_Check) (hc := Check_ok t ht); exact CoL_d rfl CoL_nil)
    | apply ay (hd := rfl)
    | (apply Y_move_d; exact rfl)
    | (apply Y_assign_d; exact rfl)
    | (apply Y_assign_nil; exact rfl)
    | (apply awp_condT; exact rfl)
    | refine awp_ret ?_
    | refine en_r ?_
  exact mpost_ret ⟨Fits_mk (Le_cons rfl (Le_cons rfl Le_nil)) (Pre_cons rfl rfl (Pre_cons rfl rfl Pre_nil)) rfl rfl, rfl⟩
set_option maxHeartbeats 2000000 in
theorem Resolve_big (nx : Int) (L : Sto) (t : List Nd) (n : Nat) (m : Int) (S' : Seen) (hL : StoB L) (ht : t.length ≤ 1000000) (hc : ckT t = 0) (hs : sizeF n L t [] = some (m, S')) (hm : m > 4000) :
    MCall Tryz.prog 25 [.ptr 0 0, .d (nodes t)] (stO nx L) (.pair .nil (.d (i64 92))) (stO nx L) := by
  have hz := size_ok nx L hL n t [] m S' (fun a w h => by cases h) ht hs
  have ht2 : t.length ≤ 2000000 := by omega
  refine mcall_of Tryz.func25 rfl Tryz.ntmps25 Tryz.results25 rfl rfl rfl ?_
  intro wb St0 X fx
  repeat' first
    | refine en_n ?_
    | refine awp_seq ?_
    | refine awp_region ?_
    | refine alex_nil ?_
    | refine w0 ?_
    | (apply Y_gtrT; exact rfl; exact rfl; first | assumption | omega)
    | (apply Y_neqF; exact rfl; exact rfl; first | assumption | omega)
    | (apply aMakeMapI (hd := rfl) (hro := rfl); (with_reducible exact mt_68); (with_reducible exact ut_i64))
    | (apply Y_call (hb := hb_Check) (hc := Check_ok t ht2); exact CoL_d rfl CoL_nil)
    | (refine aMCall [0, 1, 2] hb_ssize (hz) ?_ rfl rfl (by decide) rfl rfl rfl rfl rfl rfl ?_; (repeat (refine SArgs_cons rfl ?_)); exact SArgs_nil)
    | apply ay (hd := rfl)
    | (apply Y_move_d; exact rfl)
    | (apply Y_assign_d; exact rfl)
    | (apply Y_assign_nil; exact rfl)
    | (apply Y_move_ptr; exact rfl)
    | (apply awp_condT; exact rfl)
    | (apply awp_condF; exact rfl)
    | refine awp_skip ?_
    | refine awp_ret ?_
    | refine en_r ?_
  exact mpost_ret ⟨Fits_mk (Le_cons rfl (Le_cons rfl Le_nil)) (Pre_cons rfl rfl (Pre_cons rfl rfl Pre_nil)) rfl rfl, rfl⟩
set_option maxHeartbeats 2000000 in
theorem Resolve_ok (nx : Int) (L : Sto) (t r : List Nd) (n n2 : Nat) (m : Int) (S' : Seen) (hL : StoB L) (ht : t.length ≤ 1000000) (hc : ckT t = 0) (hs : sizeF n L t [] = some (m, S')) (hm : ¬ m > 4000) (hr : resF n2 L t = some r) (hrl : r.length ≤ 1000000) :
    MCall Tryz.prog 25 [.ptr 0 0, .d (nodes t)] (stO nx L) (.pair (.d (nodes r)) (.d (i64 0))) (stO nx L) := by
  have hz := size_ok nx L hL n t [] m S' (fun a w h => by cases h) ht hs
  have hw := whole_ok nx L n2 t r hr ht hrl hL
  have ht2 : t.length ≤ 2000000 := by omega
  refine mcall_of Tryz.func25 rfl Tryz.ntmps25 Tryz.results25 rfl rfl rfl ?_
  intro wb St0 X fx
  repeat' first
    | refine en_n ?_
    | refine awp_seq ?_
    | refine awp_region ?_
    | refine alex_nil ?_
    | refine w0 ?_
    | (apply Y_gtrF; exact rfl; exact rfl; first | assumption | omega)
    | (apply Y_neqF; exact rfl; exact rfl; first | assumption | omega)
    | (apply aMakeMapI (hd := rfl) (hro := rfl); (with_reducible exact mt_68); (with_reducible exact ut_i64))
    | (apply Y_call (hb := hb_Check) (hc := Check_ok t ht2); exact CoL_d rfl CoL_nil)
    | (refine aMCall [0, 1, 2] hb_ssize (hz) ?_ rfl rfl (by decide) rfl rfl rfl rfl rfl rfl ?_; (repeat (refine SArgs_cons rfl ?_)); exact SArgs_nil)
    | (refine Y_qcall [0, 1] [] rfl rfl hb_whole (hw) rfl ?_ rfl (by decide) rfl rfl rfl rfl; (repeat (refine SArgs_cons rfl ?_)); exact SArgs_nil)
    | apply ay (hd := rfl)
    | (apply Y_move_d; exact rfl)
    | (apply Y_assign_d; exact rfl)
    | (apply Y_assign_nil; exact rfl)
    | (apply Y_move_ptr; exact rfl)
    | (apply awp_condF; exact rfl)
    | refine awp_skip ?_
    | refine awp_ret ?_
  exact mpost_ret ⟨Fits_mk (Le_cons rfl (Le_cons rfl Le_nil)) (Pre_cons rfl rfl (Pre_cons rfl rfl Pre_nil)) rfl rfl, rfl⟩
end Go.Proofs.YtamhkcnpocdfcaaGreatDoor
/- The statements on types: slices.SortFunc at the rows of bindings. -/
namespace Go.Proofs
open Go.Shelf Go.RowKit Go.Lib Go.Sort
shelf_lay_g SlLaysF0.n6 Slsf 6 at Tryz 42 as Tryz.sortB
shelf_lay_g SlLaysC2.n5 Slgc 5 at Tryz 44 as Tryz.cmpInt
end Go.Proofs
namespace Go.Proofs.YtamhkcnpocdfcaaGreatDoor
open Go.Sx Go.Shelf Go.RowKit Go.Lib Go.Sort

/-- an element, as memory has it: a number, and any cell -/
structure Bc where
  var : Int
  ty : Value
  one : ty.oneCell' = true
instance : Inhabited Bc := ⟨⟨0, .int .i64 0, rfl⟩⟩
def encB (x : Bc) : List Value := [.int .i64 x.var, x.ty]

set_option maxHeartbeats 1000000 in
theorem sortCmp (x y : Bc) (W : World) : Calls Tryz.prog 43 #[.agg #[.int .i64 x.var, x.ty], .agg #[.int .i64 y.var, y.ty]] W fun e w' => e = .returned (.int .i64 (Lib.compareInt x.var y.var)) ∧ ∃ q os', w' = grow (W.drewN q) os' := by
  have hcon := fun W' => AnyG.cmp_Compare_int Tryz.cmpInt x.var y.var W'
  change ∀ W', Calls Tryz.prog 44 _ _ _ at hcon
  obtain ⟨xv, xt, x1⟩ := x
  obtain ⟨yv, yt, y1⟩ := y
  dsimp only at hcon ⊢
  generalize Lib.compareInt xv yv = r at hcon ⊢
  go_enter Tryz.func43, Tryz.ntmps43
  go_wp2_with (go_at_call 44; refine (hcon _).mono ?_; rintro e w' ⟨rfl, rfl⟩)
  go_ret
  exact ⟨rfl, 0, _, by rw [alloc_eq_grow, alloc_eq_grow, grow_grow]; rfl⟩
theorem ltB (x y : Bc) : ltOf (fun x y : Bc => Lib.compareInt x.var y.var) x y = decide (x.var < y.var) := by
  unfold ltOf Lib.compareInt
  by_cases h1 : x.var < y.var
  · simp [h1]
  · by_cases h2 : y.var < x.var <;> simp [h1, h2]
theorem swoB : SWO (ltOf fun x y : Bc => Lib.compareInt x.var y.var) where
  irrefl x := by rw [ltB]; simp
  trans x y z h1 h2 := by rw [ltB] at *; simp at *; omega
  ntrans x y z h1 h2 := by rw [ltB] at *; simp at *; omega

/-! ### the world behind -/
theorem sortW_row {w : World} {b n : Nat} {d' : Array Bc} {os : Array Obj} {us : Array Value} {e : TypeId} (hb : w.heap[b]? = some (.cells us e (0, 0))) :
    (sortWorldK encB 2 w b 0 n d' os).heap[b]? = some (.cells (putCells id 0 (flatK encB 2 d') us) e (0, 0)) := by
  have hlt : b < w.heap.size := (Array.getElem?_eq_some_iff.1 hb).1
  simp only [sortWorldK, grow, putRowK, putRow, mapBlock, Sort.ahead]
  rw [Array.getElem?_append_left (by simpa using hlt), Array.getElem?_modify, if_pos rfl, hb]
  rfl
theorem sortW_other {w : World} {b n k : Nat} {d' : Array Bc} {os : Array Obj} (hk : k < w.heap.size) (hne : k ≠ b) :
    (sortWorldK encB 2 w b 0 n d' os).heap[k]? = w.heap[k]? := by
  simp only [sortWorldK, grow, putRowK, putRow, mapBlock, Sort.ahead]
  rw [Array.getElem?_append_left (by simpa using hk), Array.getElem?_modify, if_neg (fun h => hne h.symm)]
theorem sortW_size {w : World} {b n : Nat} {d' : Array Bc} {os : Array Obj} : w.heap.size ≤ (sortWorldK encB 2 w b 0 n d' os).heap.size := by
  simp only [sortWorldK, grow, putRowK, putRow, mapBlock, Sort.ahead, Array.size_append, Array.size_modify]
  omega
theorem putCells_in {F us : Array Value} {t : Nat} (ht : t < F.size) (hu : t < us.size) : (putCells id 0 F us)[t]? = some F[t]! := by
  simp only [putCells, Array.getElem?_mapIdx, Array.getElem?_eq_getElem hu, Option.map_some]
  rw [if_pos ⟨Nat.zero_le _, by omega⟩]; simp
theorem flatsB_at : ∀ (l : List Bd) (i : Nat), (flats (l.map Bd.av))[2 * i]? = (l[i]?).map (fun x => i64 x.var) ∧ (flats (l.map Bd.av))[2 * i + 1]? = (l[i]?).map fun x => nodes x.ty
  | [], i => by simp [flats]
  | x :: l, 0 => by
    constructor <;> rfl
  | x :: l, i + 1 => by
    have ih := flatsB_at l i
    have e : flats ((x :: l).map Bd.av) = i64 x.var :: nodes x.ty :: flats (l.map Bd.av) := rfl
    rw [e, show 2 * (i + 1) = 2 * i + 1 + 1 by omega, show 2 * i + 1 + 1 + 1 = (2 * i + 1) + 1 + 1 by omega]
    simpa using ih
theorem strict_unique : ∀ (a b : List Bd), a.Perm b → a.Pairwise (fun x y => x.var < y.var) → b.Pairwise (fun x y => x.var < y.var) → a = b
  | [], b, h, _, _ => (List.nil_perm.1 h).symm
  | x :: a, [], h, _, _ => absurd h.length_eq (by simp)
  | x :: a, y :: b, h, ha, hb => by
    obtain ⟨ha1, ha2⟩ := List.pairwise_cons.1 ha
    obtain ⟨hb1, hb2⟩ := List.pairwise_cons.1 hb
    have hxy : x = y := by
      have h1 : x ∈ y :: b := h.subset (by simp)
      have h2 : y ∈ x :: a := h.symm.subset (by simp)
      rcases List.mem_cons.1 h1 with h1 | h1
      · exact h1
      · rcases List.mem_cons.1 h2 with h2 | h2
        · exact h2.symm
        · have := hb1 x h1; have := ha1 y h2; omega
    subst hxy
    rw [strict_unique a b ((List.perm_cons x).1 h) ha2 hb2]
theorem perm_map_inv {α β : Type} {f : α → β} {m1 m2 : List β} (h : m1.Perm m2) : ∀ {z : List α}, z.map f = m1 → ∃ z', z.Perm z' ∧ z'.map f = m2 := by
  induction h with
  | nil => intro z hz; exact ⟨[], by rw [List.map_eq_nil_iff.1 hz], rfl⟩
  | cons x _ ih =>
    intro z hz
    obtain ⟨a, z1, rfl, rfl, h2⟩ := List.map_eq_cons_iff.1 hz
    obtain ⟨z', h3, h4⟩ := ih h2
    exact ⟨a :: z', h3.cons a, by rw [List.map_cons, h4]⟩
  | swap x y l =>
    intro z hz
    obtain ⟨a, z1, rfl, rfl, h2⟩ := List.map_eq_cons_iff.1 hz
    obtain ⟨a2, z2, rfl, rfl, h3⟩ := List.map_eq_cons_iff.1 h2
    exact ⟨a2 :: a :: z2, .swap _ _ _, by simp [h3]⟩
  | trans _ _ ih1 ih2 =>
    intro z hz
    obtain ⟨z1, h1, h2⟩ := ih1 hz
    obtain ⟨z2, h3, h4⟩ := ih2 h2
    exact ⟨z2, h1.trans h3, h4⟩

/-- the row, read: an array of elements -/
theorem row_read {g : Gh} {w : World} {l : List Bd} {us : Array Value} {cap : Nat} (hus : us.size = cap * 2) (hc : (l.map Bd.av).length ≤ cap) (h1 : ∀ (j : Nat) (u : Value), j < (l.map Bd.av).length * 2 → us[j]? = some u → u.oneCell' = true)
    (h2 : ∀ (j : Nat) (u : Value) (d : D), us[j]? = some u → (flats (l.map Bd.av))[j]? = some d → RepD g.St w u d) :
    ∃ d : Array Bc, d.size = l.length ∧ ∀ (i : Nat) (x : Bd) (y : Bc), l[i]? = some x → d[i]? = some y → y.var = x.var ∧ RepD g.St w y.ty (nodes x.ty) ∧ us[2 * i]? = some (.int .i64 y.var) ∧ us[2 * i + 1]? = some y.ty := by
  rw [List.length_map] at hc h1
  have hlt : ∀ i : Fin l.length, 2 * i.1 + 1 < us.size := fun i => by have := i.2; omega
  refine ⟨Array.ofFn (n := l.length) fun i => ⟨l[i].var, us[2 * i.1 + 1]'(hlt i), h1 (2 * i.1 + 1) _ (by have := i.2; omega) (Array.getElem?_eq_getElem (hlt i))⟩, by simp, fun i x y hx hy => ?_⟩
  obtain ⟨hi, hx'⟩ := List.getElem?_eq_some_iff.1 hx
  rw [Array.getElem?_eq_getElem (by simpa using hi)] at hy
  injection hy with hy
  rw [Array.getElem_ofFn] at hy
  subst hy
  have q0 : us[2 * i]? = some (us[2 * i]'(by have := hlt ⟨i, hi⟩; simp only at this; omega)) := Array.getElem?_eq_getElem _
  have q1 : us[2 * i + 1]? = some (us[2 * i + 1]'(hlt ⟨i, hi⟩)) := Array.getElem?_eq_getElem _
  have r0 := h2 (2 * i) _ (i64 x.var) q0 (by rw [(flatsB_at l i).1, hx]; rfl)
  have r1 := h2 (2 * i + 1) _ (nodes x.ty) q1 (by rw [(flatsB_at l i).2, hx]; rfl)
  refine ⟨by simp [hx'], r1, ?_, q1⟩
  rw [q0, r0.val_eq]
  simp [hx']

/-- what is sorted: as memory has it, and as read -/
theorem sort_plain {l l' : List Bd} {d d' : Array Bc} {R : Bd → Bc → Prop} (hR : ∀ x y, R x y → y.var = x.var) (hs : d.size = l.length) (hd : ∀ (i : Nat) (x : Bd) (y : Bc), l[i]? = some x → d[i]? = some y → R x y)
    (hp : PermIn 0 d.size d d') (hso : SortedIn (ltOf fun x y : Bc => Lib.compareInt x.var y.var) 0 d.size d') (hl : l'.Perm l) (hl' : l'.Pairwise (fun x y => x.var < y.var)) :
    d'.size = l'.length ∧ ∀ (i : Nat) (x : Bd) (y : Bc), l'[i]? = some x → d'[i]? = some y → R x y := by
  obtain ⟨p1, _, p2⟩ := hp
  have p3 : d'.toList.Perm d.toList := by
    have e1 : d'.extract 0 d.size = d' := by rw [← p1]; simp
    have e2 : d.extract 0 d.size = d := by simp
    rw [e1, e2] at p2; exact p2
  have hz : (l.zip d.toList).map Prod.snd = d.toList := List.map_snd_zip (by simp [hs])
  have hz1 : (l.zip d.toList).map Prod.fst = l := List.map_fst_zip (by simp [hs])
  obtain ⟨z, hz2, hz3⟩ := perm_map_inv p3.symm hz
  have hzR : ∀ p ∈ z, R p.1 p.2 := fun p hp => by
    obtain ⟨i, hi⟩ := List.mem_iff_getElem?.1 (hz2.symm.subset hp)
    rw [List.getElem?_zip_eq_some] at hi
    exact hd i p.1 p.2 hi.1 (by rw [← Array.getElem?_toList]; exact hi.2)
  have hzl : (z.map Prod.fst).Perm l := by rw [← hz1]; exact (hz2.map _).symm
  have hle : (z.map Prod.fst).Pairwise (fun x y => x.var ≤ y.var) := by
    rw [List.pairwise_iff_getElem]
    intro i j hi hj hij
    rw [List.length_map] at hi hj
    have hdz : d'.size = z.length := by rw [← List.length_map (f := Prod.snd), hz3]; simp
    have e : ∀ k (hk : k < z.length), d'[k]! = (z[k]).2 := fun k hk => by
      rw [getElem!_pos d' k (by omega)]
      have : d'.toList[k]? = some (z[k]).2 := by rw [← hz3, List.getElem?_map, List.getElem?_eq_getElem hk]; rfl
      rw [Array.getElem?_toList, Array.getElem?_eq_getElem (by omega)] at this
      exact Option.some.inj this
    have h1 := hso i j (Nat.zero_le _) hij (by omega)
    rw [ltB, e i hi, e j hj] at h1
    have a1 := hR _ _ (hzR _ (List.getElem_mem hi))
    have a2 := hR _ _ (hzR _ (List.getElem_mem hj))
    simp at h1
    simp only [List.getElem_map]
    omega
  have hne : (z.map Prod.fst).Pairwise (fun x y => x.var ≠ y.var) := by
    refine (List.Perm.pairwise_iff (fun {a b} h => Ne.symm h) (hzl.trans hl.symm)).2 ?_
    exact hl'.imp fun h => by omega
  have hlt : (z.map Prod.fst).Pairwise (fun x y => x.var < y.var) := by
    rw [List.pairwise_iff_getElem] at hle hne ⊢
    intro i j hi hj hij
    have := hle i j hi hj hij
    have := hne i j hi hj hij
    omega
  have he := strict_unique _ _ (hzl.trans hl.symm) hlt hl'
  subst he
  refine ⟨by rw [p1, hs, hl.length_eq], fun i x y hx hy => ?_⟩
  rw [List.getElem?_map] at hx
  rw [← Array.getElem?_toList, ← hz3, List.getElem?_map] at hy
  cases hq : z[i]? with
  | none => rw [hq] at hx; cases hx
  | some p =>
    rw [hq] at hx hy
    injection hx with hx; injection hy with hy; subst hx; subst hy
    exact hzR p (List.mem_of_getElem? hq)

theorem encB_one (x : Bc) (v : Value) (hv : v ∈ encB x) : v.oneCell' = true := by
  simp only [encB, List.mem_cons, List.not_mem_nil, or_false] at hv
  rcases hv with rfl | rfl
  · rfl
  · exact x.one
set_option maxHeartbeats 1000000 in
/-- slices.SortFunc on a row of the call's own -/
theorem sort_calls (g : Gh) (w : World) (id : Nat) (l l' : List Bd) (e : TypeId) (hbd : l.length ≤ 2000000) (hl : l'.Perm l) (hl' : l'.Pairwise (fun x y => x.var < y.var)) (hi : ObOk g w id (.buf true e 2 (l.map Bd.av))) (hstb : ∀ b o, g.St b o → b < w.heap.size) :
    Calls Tryz.prog 42 #[.slice ((g.blk id).map (⟨·, 0, none⟩)) l.length (g.cap id), .func (.func 43) #[] #[]] w fun e' w' =>
      e' = .returned (.tuple #[]) ∧ w'.os = w.os ∧ w'.tape = w.tape ∧ w'.output = w.output ∧ w.heap.size ≤ w'.heap.size ∧ (∀ k, k < w.heap.size → g.blk id ≠ some k → w'.heap[k]? = w.heap[k]?) ∧ ObOk g w' id (.buf true e 2 (l'.map Bd.av)) := by
  have hi0 := hi
  obtain ⟨o1, o2, o3, o4, o5⟩ := hi
  have hll := hl.length_eq
  rcases Nat.eq_zero_or_pos l.length with h0 | h0
  · have hnil : l = [] := List.length_eq_zero_iff.1 h0
    subst hnil
    have hnil' : l' = [] := List.length_eq_zero_iff.1 hll
    subst hnil'
    have hc := AnyF.slices_SortFunc_none Tryz.sortB ((g.blk id).map (⟨·, 0, none⟩)) (g.cap id) (.func (.func 43) #[] #[]) w
    refine hc.mono ?_
    rintro e' w' ⟨rfl, rfl⟩
    exact ⟨rfl, rfl, rfl, rfl, Nat.le_refl _, fun _ _ _ => rfl, hi0⟩
  · rw [List.length_map] at o4
    rcases o5 with ⟨_, o5⟩ | ⟨b, us, hb, hw, hus, h1, h2, h3⟩
    · omega
    · obtain ⟨d, hds, hd⟩ := row_read (g := g) (w := w) (l := l) hus (by rw [List.length_map]; exact o4) h1 h2
      have hbl : b < w.heap.size := (Array.getElem?_eq_some_iff.1 hw).1
      have hget : ∀ i, i < l.length → ∃ x y, l[i]? = some x ∧ d[i]? = some y ∧ d[i]! = y := fun i hi' => ⟨l[i], d[i]'(by omega), List.getElem?_eq_getElem hi', Array.getElem?_eq_getElem (by omega), getElem!_pos d i (by omega)⟩
      have hH : HoldsK encB 2 w b 0 d := by
        intro t ht
        rw [size_flatK, hds] at ht
        rw [get_flatK _ _ _ _ (by rw [hds]; exact ht)]
        obtain ⟨x, y, hx, hy, hyy⟩ := hget (t / 2) (by omega)
        obtain ⟨_, _, q0, q1⟩ := hd _ x y hx hy
        rw [hyy]
        have hm : t % 2 = 0 ∨ t % 2 = 1 := by omega
        constructor
        · simp only [World.cell?, hw, Option.isSome_none, Bool.false_eq_true, if_false, Nat.zero_add]
          rcases hm with hm | hm
          · rw [hm, show us[t]? = us[2 * (t / 2)]? by congr 1; omega, q0]; rfl
          · rw [hm, show us[t]? = us[2 * (t / 2) + 1]? by congr 1; omega, q1]; rfl
        · simp [World.frozen?, hw]
      have hc := AnyQ.slices_SortFunc Tryz.sortB 2 Tryz.isAgg51 Tryz.sizeOf51 encB (fun _ => rfl) encB_one (fun x y => Lib.compareInt x.var y.var) swoB 43 #[] b 0 (g.cap id) d w
        (enters_of Tryz.func43 (by kernel_rfl) rfl) (fun _ _ _ _ x y => sortCmp x y _) hH hbl (by omega)
      rw [hb]
      have hlen : (List.map Bd.av l).length = d.size := by rw [List.length_map, hds]
      show Calls Tryz.prog _ #[.slice (some ⟨b, 0, none⟩) l.length (g.cap id), .func (.func 43) #[] #[]] w _
      rw [← hds]
      refine Calls.mono hc ?_
      rintro e' w' ⟨rfl, d', n, os, hp, hso, rfl⟩
      obtain ⟨s1, s2⟩ := sort_plain (R := fun (x : Bd) (y : Bc) => y.var = x.var ∧ RepD g.St w y.ty (nodes x.ty)) (fun _ _ h => h.1) hds (fun i x y hx hy => ⟨(hd i x y hx hy).1, (hd i x y hx hy).2.1⟩) hp hso hl hl'
      have hst : ∀ o, ¬ g.St b o := fun o ho => by have := (h3 o).1 ho; exact absurd this.1 (by simp)
      have hoth : ∀ k, k < w.heap.size → k ≠ b → (sortWorldK encB 2 w b 0 n d' os).heap[k]? = w.heap[k]? := fun k hk hne => sortW_other hk hne
      have kp : Keep g.St w g.St (sortWorldK encB 2 w b 0 n d' os) := ⟨fun _ _ h => h, fun c o u hc' hu => (World.cell?_of_block (a := ⟨c, o, none⟩) (hoth c (hstb c o hc') (fun e => hst o (e ▸ hc')))).trans hu, fun c hc' => hoth c (hstb c 0 (hc' 0)) (fun e => hst 0 (e ▸ hc' 0))⟩
      have hsz := sortW_size (w := w) (b := b) (n := n) (d' := d') (os := os)
      refine ⟨rfl, rfl, rfl, rfl, hsz, fun k hk hj => hoth k hk (fun e => hj (by rw [e])), ?_⟩
      have hl2 : (List.map Bd.av l').length = l.length := by rw [List.length_map, hll]
      have hF : (flatK encB 2 d').size = l.length * 2 := by rw [size_flatK, s1, hll]
      have hin : ∀ t, t < l.length * 2 → (putCells _root_.id 0 (flatK encB 2 d') us)[t]? = some (encB d'[t / 2]!)[t % 2]! := fun t ht => by
        rw [putCells_in (by rw [hF]; exact ht) (by omega), get_flatK _ _ _ _ (by rw [s1, hll]; exact ht)]
      have hget' : ∀ i, i < l.length → ∃ x y, l'[i]? = some x ∧ d'[i]? = some y ∧ d'[i]! = y := fun i hi' => ⟨l'[i]'(by omega), d'[i]'(by omega), List.getElem?_eq_getElem (by omega), Array.getElem?_eq_getElem (by omega), getElem!_pos d' i (by omega)⟩
      refine ⟨o1, fun x hx => by obtain ⟨v, _, rfl⟩ := List.mem_map.1 hx; rfl, o3, by rw [hl2]; exact o4, .inr ⟨b, _, hb, sortW_row hw, by simp [putCells, hus], fun j u hj hu => ?_, fun j u dd hu hdd => ?_, fun o => ?_⟩⟩
      · rw [hl2] at hj
        rw [hin j hj] at hu; injection hu with hu; subst hu
        have hm : j % 2 = 0 ∨ j % 2 = 1 := by omega
        rcases hm with hm | hm <;> rw [hm]
        · rfl
        · exact (d'[j / 2]!).one
      · have hj : j < l.length * 2 := by
          have := (List.getElem?_eq_some_iff.1 hdd).1
          have e : ∀ m : List Bd, (flats (m.map Bd.av)).length = m.length * 2 := fun m => by
            induction m with
            | nil => rfl
            | cons a m ih => show (flats (m.map Bd.av)).length + 1 + 1 = _; rw [ih, List.length_cons]; omega
          rw [e, hll] at this; exact this
        rw [hin j hj] at hu; injection hu with hu; subst hu
        obtain ⟨x, y, hx, hy, hyy⟩ := hget' (j / 2) (by omega)
        obtain ⟨z1, z2⟩ := s2 _ x y hx hy
        have hm : j % 2 = 0 ∨ j % 2 = 1 := by omega
        rcases hm with hm | hm
        · rw [hm, hyy]
          have : j = 2 * (j / 2) := by omega
          rw [this, (flatsB_at l' (j / 2)).1, hx] at hdd
          injection hdd with hdd; subst hdd
          show RepD _ _ (.int .i64 y.var) _
          rw [z1]; exact .val _
        · rw [hm, hyy]
          have : j = 2 * (j / 2) + 1 := by omega
          rw [this, (flatsB_at l' (j / 2)).2, hx] at hdd
          injection hdd with hdd; subst hdd
          exact z2.keep kp
      · rw [hl2]; have := h3 o; rw [List.length_map] at this; exact this

/-- a row of the call's own turns, where it lies -/
theorem sameBuf {C : Ctx} {σ : Sl} {η : List Ob} {g : Gh} {a : Act} {w w' : World} (h : AbsG C g σ η a w) {id e sz : Nat} {xs : List D} {o' : Ob} (hid : η[id]? = some (.buf true e sz xs)) (hro : C.ro ≤ id)
    (os : w'.os = w.os) (tape : w'.tape = w.tape) (output : w'.output = w.output) (size : w.heap.size ≤ w'.heap.size) (heap : ∀ k, k < w.heap.size → g.blk id ≠ some k → w'.heap[k]? = w.heap[k]?) (ok : ObOk g w' id o') :
    AbsG C g σ (η.set id o') a w' := by
  have hidl : id < η.length := (List.getElem?_eq_some_iff.1 hid).1
  obtain ⟨o1, o2, o3, o4, o5⟩ := h.inv.ob id _ hid
  have hst : ∀ b o, g.St b o → g.blk id ≠ some b := fun b o ho hb => by
    rcases o5 with ⟨h1, _⟩ | ⟨b', us, h1, _, _, _, _, h3⟩
    · rw [h1] at hb; cases hb
    · rw [h1] at hb; injection hb with hb; subst hb
      exact absurd ((h3 o).1 ho).1 (by simp)
  have kp : Keep g.St w g.St w' := ⟨fun _ _ h => h, fun c o u hc hu => (World.cell?_of_block (a := ⟨c, o, none⟩) (heap c (h.inv.st c o hc) (hst c o hc))).trans hu, fun c hc => heap c (h.inv.st c 0 (hc 0)) (hst c 0 (hc 0))⟩
  have rk : ∀ {v : Value} {s : SV}, RepS g w v s → RepS g w' v s := fun r => r.ext kp (fun _ _ => ⟨rfl, rfl, rfl⟩) (Nat.le_refl _)
  refine ⟨h.defers, h.size, ⟨by rw [List.length_set]; exact h.inv.n, fun i c hc => Nat.lt_of_lt_of_le (h.inv.lt i c hc) size, h.inv.dead, h.inv.inj, fun i o ho => ?_, fun c o hc => Nat.lt_of_lt_of_le (h.inv.st c o hc) size, h.inv.gl.keep kp⟩, os.trans h.os, tape.trans h.tape, output.trans h.output, Nat.le_trans h.wsize size, fun k hk hx => ?_, h.keep.trans kp, h.new, h.own, fun t => rk (h.rep t)⟩
  · rw [List.getElem?_set] at ho
    split at ho
    · rename_i hii; subst hii
      injection ho with ho; subst ho; exact ok
    · rename_i hii
      exact (h.inv.ob i o ho).ext kp (fun _ _ => ⟨rfl, rfl, rfl⟩) (Nat.le_refl _) (by rw [h.inv.n]; exact (List.getElem?_eq_some_iff.1 ho).1) (fun c hcb => ⟨heap c (h.inv.lt i c hcb) (fun e => hii (h.inv.inj id i c e hcb)), fun _ => Iff.rfl⟩)
  · rw [heap k (Nat.lt_of_lt_of_le hk h.wsize) (fun e => ?_)]
    · exact h.heap k hk hx
    · rcases h.own id k e hro with h1 | h1
      · omega
      · exact hx h1
end Go.Proofs.YtamhkcnpocdfcaaGreatDoor
/- The statements on types: the walk of typ.Unify. -/
namespace Go.Proofs.YtamhkcnpocdfcaaGreatDoor
open Go.Sx
theorem hb_sortB : hasBody Tryz.prog 42 = true := by kernel_rfl
/-- slices.SortFunc on a row of the call's own: its places are turned where they lie -/
theorem aSortB {C : Ctx} {ops : Array Oper} {rest : List Oper} {K : Sl → List Ob → Prop} {σ : Sl} {η : List Ob} {d : Nat} {ty : TypeId} {pos : String} {after : Array Edge} {gd : Option (Nat × Bool)} {ts : Array TypeId} {x y : Operand} {id n e : Nat} {l l' : List Bd} (hP : C.P = Tryz.prog)
    (hx : oval σ x = .buf id n) (hy : oval σ y = .clo 43 []) (ho : η[id]? = some (.buf true e 2 (l.map Bd.av))) (hn : n = (l.map Bd.av).length) (hd : Nat.blt d C.N = true) (hro : Nat.ble C.ro id = true)
    (hl : l'.Perm l) (hl' : l'.Pairwise (fun x y => x.var < y.var)) (hbd : l.length ≤ 2000000)
    (h : alex C false ops rest K ((d, .top) :: σ) (η.set id (.buf true e 2 (l'.map Bd.av)))) :
    astep C false ops ⟨some d, .call ⟨.value (.func 42), #[x, y], ts⟩, ty, pos, after, gd⟩ rest K σ η := by
  intro Q hQ a w ⟨g, hg⟩ K' hK'
  have e1 := hg.eval x; rw [hx] at e1
  have e2 := hg.eval y; rw [hy] at e2
  obtain ⟨_, e1⟩ := e1
  obtain ⟨cs, e2, e3, _⟩ := e2
  have hcs : cs = [] := List.length_eq_zero_iff.1 e3
  subst hcs
  rw [hn, List.length_map] at e1
  unfold Oper.wp
  have hrun : (execOp a.eval ⟨some d, .call ⟨.value (.func 42), #[x, y], ts⟩, ty, pos, after, gd⟩).run C.P w = .ok (.enter 42 #[a.eval x, a.eval y]) w := by
    simp only [execOp, resolve, Act.eval, Deferred.ofValue, invoke, Sem.run_bind, Sem.run_pure, Result.andThen_ok, List.map_toArray, Array.empty_append, Array.append_empty]
    rw [hP]
    exact hasBody_run hb_sortB
  rw [hrun, Oper.upon_enter, e1, e2, hP]
  have hs := sort_calls g w id l l' e hbd hl hl' (hg.inv.ob id _ ho) hg.inv.st
  refine hs.mono fun e' w' ⟨he, q1, q2, q3, q4, q5, q6⟩ => ?_
  subst he
  have h1 := sameBuf hg ho (Nat.le_of_ble_eq_true hro) q1 q2 q3 q4 q5 q6
  exact hK' _ _ (h Q hQ _ w' ⟨g, h1.put (d := some d) (s := .top) hd trivial⟩)

/-! ### a map's entries, each once, in whatever order -/
theorem few_of : ∀ (n : Nat) (l : List Nat), l.Nodup → (∀ j ∈ l, j < n) → l.length ≤ n
  | 0, [], _, _ => Nat.le_refl _
  | 0, x :: l, _, h => absurd (h x (by simp)) (by omega)
  | n + 1, l, hn, h => by
    by_cases hm : n ∈ l
    · have := few_of n (l.erase n) (hn.erase n) (fun j hj => by
        obtain ⟨h1, h2⟩ := hn.mem_erase_iff.1 hj
        have := h j h2; omega)
      rw [List.length_erase_of_mem hm] at this
      omega
    · have := few_of n l hn (fun j hj => by
        have := h j hj
        have : j ≠ n := fun e => hm (e ▸ hj)
        omega)
      omega
theorem perm_range {n : Nat} {l : List Nat} (hn : l.Nodup) (h : ∀ j ∈ l, j < n) (ha : ∀ j, j < n → j ∈ l) : l.Perm (List.range n) := by
  rw [List.perm_iff_count]
  intro a
  rw [hn.count, List.nodup_range.count]
  by_cases hm : a < n
  · rw [if_pos (ha a hm), if_pos (by simpa using hm)]
  · rw [if_neg (fun h' => hm (h a h')), if_neg (by simpa using hm)]
theorem range_map {α β : Type} (f : α → β) : ∀ L : List α, (List.range L.length).filterMap (fun j => (L[j]?).map f) = L.map f
  | [] => rfl
  | x :: L => by
    rw [List.length_cons, List.range_succ_eq_map, List.filterMap_cons]
    simp only [List.getElem?_cons_zero, Option.map_some, List.filterMap_map, List.map_cons]
    congr 1
    exact range_map f L
attribute [local irreducible] hasBody Program.underlying Ylds astep alex alexE alexD awp PCall FCall RCall MCall QCall athen ablock ajump rpost fpost mpost rpostC
set_option maxHeartbeats 2000000 in
theorem Unify_no (n : Nat) (a b : List Nd) (e : Int) (L : Sto) (hla : a.length ≤ 2000000) (hlb : b.length ≤ 2000000) (h : uniF n [] a b = some (e, L)) (he : e ≠ 0) :
    PCall Tryz.prog 18 [nodes a, nodes b] (.tup [binds [], i64 e]) := by
  have hu := SUnify_ok 0 n [] a b e L hla hlb (fun p hp => by cases hp) h
  refine pcall_ofC Tryz.func18 rfl Tryz.ntmps18 Tryz.results18 rfl ?_
  intro wb St0
  repeat' first
    | refine en_n ?_
    | refine awp_seq ?_
    | refine awp_region ?_
    | refine alex_nil ?_
    | refine w0 ?_
    | (apply Y_neqT; exact rfl; exact rfl; first | assumption | omega)
    | (refine rpostC_ret ?_)
    | (refine resC_tup ?_)
    | exact RV_nil
    | (refine RV_d rfl ?_ ?_)
    | (refine RV_n rfl ?_ ?_)
    | (with_reducible exact rfl)
    | (refine aNCall [] hb_NewStore (NewStore_ok 0) ?_ rfl rfl (by decide) rfl rfl rfl rfl rfl rfl ?_; (repeat (refine SArgs_cons rfl ?_)); exact SArgs_nil)
    | (refine aMCall [1, 0] hb_SUnify (hu) ?_ rfl rfl (by decide) rfl rfl rfl rfl rfl rfl ?_; (repeat (refine SArgs_cons rfl ?_)); exact SArgs_nil)
    | apply ay (hd := rfl)
    | (apply Y_move_d; exact rfl)
    | (apply Y_assign_d; exact rfl)
    | (apply Y_assign_nil; exact rfl)
    | (apply Y_move_ptr; exact rfl)
    | (apply Y_assign_ptr; exact rfl)
    | (apply awp_condT; exact rfl)
    | refine awp_ret ?_
    | refine en_r ?_
  all_goals rfl
def bdOf (rs : Int → List Nd) (p : Int × List Nd) : Bd := ⟨p.1, rs p.1⟩
set_option maxHeartbeats 4000000 in
theorem Unify_yes (n : Nat) (a b : List Nd) (L : Sto) (rs : Int → List Nd) (l' : List Bd) (hla : a.length ≤ 2000000) (hlb : b.length ≤ 2000000) (h : uniF n [] a b = some (0, L)) (hB : StoB L) (hlen : L.length ≤ 1000000)
    (hg : ∀ p ∈ L, ckT (varN p.1) = 0 ∧ (∃ n m S', sizeF n L (varN p.1) [] = some (m, S') ∧ ¬ m > 4000) ∧ (∃ n, resF n L (varN p.1) = some (rs p.1)) ∧ (rs p.1).length ≤ 1000000)
    (hl : l'.Perm (L.map (bdOf rs))) (hs : l'.Pairwise (fun x y => x.var < y.var)) :
    PCall Tryz.prog 18 [nodes a, nodes b] (.tup [binds l', i64 0]) := by
  have hu := SUnify_ok 0 n [] a b 0 L hla hlb (fun p hp => by cases hp) h
  have hel : (encA nodes L).length = L.length := by simp [encA]
  refine pcall_ofC Tryz.func18 rfl Tryz.ntmps18 Tryz.results18 rfl ?_
  intro wb St0
  repeat' first
    | refine en_n ?_
    | refine awp_seq ?_
    | refine awp_region ?_
    | refine alex_nil ?_
    | refine w0 ?_
    | (apply Y_neqF; exact rfl; exact rfl; first | assumption | omega)
    | (refine aNCall [] hb_NewStore (NewStore_ok 0) ?_ rfl rfl (by decide) rfl rfl rfl rfl rfl rfl ?_; (repeat (refine SArgs_cons rfl ?_)); exact SArgs_nil)
    | (refine aMCall [1, 0] hb_SUnify (hu) ?_ rfl rfl (by decide) rfl rfl rfl rfl rfl rfl ?_; (repeat (refine SArgs_cons rfl ?_)); exact SArgs_nil)
    | (apply Y_nilc_p; exact rfl)
    | (apply aRangeM (hd := rfl) (hro := rfl); exact rfl; exact rfl; (with_reducible exact mt_51))
    | apply ay (hd := rfl)
    | (apply Y_move_d; exact rfl)
    | (apply Y_assign_d; exact rfl)
    | (apply Y_assign_nil; exact rfl)
    | (apply Y_move_ptr; exact rfl)
    | (apply Y_assign_ptr; exact rfl)
    | (apply Y_field_p; exact rfl; exact (by first | with_reducible exact fb_0 | with_reducible exact fb_1 | with_reducible exact fs_0 | with_reducible exact fs_1 | with_reducible exact fn_0 | with_reducible exact fn_1 | with_reducible exact fn_2 | with_reducible exact fn_3 | with_reducible exact fo_0 | with_reducible exact fo_1 | with_reducible exact fo_2 | with_reducible exact fo_3))
    | (apply Y_load_p; exact rfl; exact (by first | with_reducible exact tc_bind | with_reducible exact tc_m51 | with_reducible exact tc_m68 | with_reducible exact tc_pst | with_reducible exact tc_pf | with_reducible exact tcn_int | with_reducible exact tc_nodes | with_reducible exact tc_node | with_reducible exact tc_ints | with_reducible exact tcn_kind | with_reducible exact tcn_i64 | with_reducible exact tcn_str | with_reducible exact tcn_bool | with_reducible exact tc_str | with_reducible exact tc_int | with_reducible exact tc_kind | with_reducible exact tc_tok | with_reducible exact tc_u8s | with_reducible exact tc_toks | with_reducible exact tc_strs | with_reducible exact tc_bool | with_reducible exact tc_err | with_reducible exact tc_i64); exact rfl; exact rfl)
    | (apply awp_condF; exact rfl)
    | refine awp_block ?_
    | refine awp_skip ?_
  refine awp_newbuf 8 true 51 2 rfl rfl ?_
  refine awp_loopF (α := List Nat × List Bd) (fun p => p.1.Nodup ∧ (∀ j ∈ p.1, j < L.length) ∧ p.2 = p.1.filterMap (fun j => (L[j]?).map (bdOf rs)) ∧ p.2.length = p.1.length) (fun p => [(6, .ptr 1 0), (8, .buf 3 (p.2.map Bd.av).length), (24, .ptr 2 0)])
    (fun p => [.map none (mSto L), .bx none none [.d (i64 0), .mp 0], .miter 0 (encA nodes L).length p.1 (encA nodes L).length, .buf true 51 2 (p.2.map Bd.av)]) (fun p => L.length - p.1.length) ([], []) ⟨List.nodup_nil, by simp, rfl, rfl⟩
    (Fits_mk (Le_cons rfl (Le_buf rfl rfl (Le_cons rfl Le_nil))) (Pre_cons rfl rfl (Pre_cons rfl rfl (Pre_cons rfl rfl (Pre_buf rfl rfl rfl Pre_nil)))) rfl rfl) ?_
  rintro ⟨seen, acc⟩ ⟨hn, hj, hacc, hal⟩
  dsimp only at hn hj hacc hal ⊢
  have hfew := few_of _ _ hn hj
  have hR : ∀ (j : Nat) (k : Int) (v : D), (encA nodes L)[j]? = some (k, v) → MCall Tryz.prog 25 [.ptr 0 0, .d (nodes (varN k))] (stO 0 L) (.pair (.d (nodes (rs k))) (.d (i64 0))) (stO 0 L) ∧ ∃ t, L[j]? = some (k, t) := fun j k v hjk => by
    obtain ⟨t, hjL, _⟩ : ∃ t, L[j]? = some (k, t) ∧ v = nodes t := by
      rw [encA, List.getElem?_map] at hjk
      cases hq : L[j]? with
      | none => rw [hq] at hjk; cases hjk
      | some p => rw [hq] at hjk; injection hjk with hjk; injection hjk with q1 q2; subst q1; exact ⟨p.2, rfl, q2.symm⟩
    obtain ⟨hc, ⟨n1, m, S', hsz, hm⟩, ⟨n2, hres⟩, hrl⟩ := hg _ (List.mem_of_getElem? hjL)
    exact ⟨Resolve_ok 0 L (varN k) (rs k) n1 n2 m S' hB (by simp [varN]) hc hsz hm hres hrl, t, hjL⟩
  have hP : (∀ j, j < (encA nodes L).length → j ∈ seen) → l'.Perm acc := fun hall => by
    rw [hacc]
    refine hl.trans ?_
    rw [← range_map]
    exact ((perm_range hn hj (fun j hj' => hall j (by rw [hel]; exact hj'))).filterMap _).symm
  have hbl : acc.length ≤ 2000000 := by omega
  repeat' first
    | (refine aNextM (it := 2) (id := 0) (enc := ki) (L := encA nodes L) (since := (encA nodes L).length) (st := (encA nodes L).length) (seen := seen) rfl rfl rfl rfl rfl rfl rfl ?_ ?_; (intro j k v hjk hnj); rotate_left; (intro hall); rotate_right)
    | (refine awp_freezeW 46 3 rfl rfl rfl ?_)
    | refine en_n ?_
    | refine awp_seq ?_
    | refine awp_region ?_
    | refine alex_nil ?_
    | refine w0 ?_
    | (apply Y_neqF; exact rfl; exact rfl; first | assumption | omega)
    | (refine rpostC_ret ?_)
    | (refine resC_tup ?_)
    | exact RV_nil
    | (refine RV_d rfl ?_ ?_)
    | (refine RV_b rfl rfl ?_ ?_ ?_)
    | (with_reducible exact rfl)
    | (refine Y_entry (κ := Int) (enc := ki) (L := encA nodes L) (k := k) (v := v) (j := j) (seen := seen) (it := 2) (id := 0) rfl rfl rfl rfl hjk)
    | (apply Y_call (hb := hb_variable) (hc := variable_ok k))
    | (refine aMCall [1, 0] hb_Resolve ((hR j k v hjk).1) ?_ rfl rfl (by decide) rfl rfl rfl rfl rfl rfl ?_; (repeat (refine SArgs_cons rfl ?_)); exact SArgs_nil)
    | (apply Y_ext0; exact rfl)
    | (apply Y_ext1; exact rfl)
    | (apply Y_buildD; exact pl_bind; exact zo_bind; exact PD_d rfl rfl (PD_d rfl rfl PD_nil); exact rfl)
    | (apply aApp (id := 3) (hd := rfl) (hro := rfl); exact rfl; exact rfl; (first | exact Co_dd rfl | exact Co_bb rfl rfl rfl | exact Co_nn rfl); (first | exact rfl | exact (by simp)); exact rfl; exact (by first | with_reducible exact ety_binds | with_reducible exact ety_nodes | with_reducible exact ety_ints | with_reducible exact ety_nodess | with_reducible exact ety_toks | with_reducible exact ety_strs | with_reducible exact ety_u8s); exact (by first | with_reducible exact es_binds | with_reducible exact es_nodes | with_reducible exact es_ints | with_reducible exact es_nodess | with_reducible exact es_toks | with_reducible exact es_strs | with_reducible exact es_u8s); exact (by first | with_reducible exact zl_bind | with_reducible exact zl_node | with_reducible exact zl_int | with_reducible exact zl_nodes | with_reducible exact zl_tok | with_reducible exact zl_str | with_reducible exact zl_i64 | with_reducible exact zl_u8); exact (by first | with_reducible exact by_binds | with_reducible exact by_nodes | with_reducible exact by_ints | with_reducible exact by_nodess | with_reducible exact by_toks | with_reducible exact by_strs | with_reducible exact by_u8s); (first | exact sz_map (fun _ => rfl) | exact sz_lit rfl))
    | (refine aSortB rfl rfl rfl rfl rfl rfl rfl (hP hall) hs hbl ?_)
    | (refine Y_copy (x := .tmp 33) (s := .pair (.d (nodes (rs k))) (.d (i64 0))) (.inl rfl) rfl)
    | apply ay (hd := rfl)
    | (apply Y_move_d; exact rfl)
    | (apply Y_assign_d; exact rfl)
    | (apply Y_extract; exact rfl; exact rfl)
    | (apply Y_move_buf; exact rfl)
    | (apply Y_assign_buf; exact rfl)
    | (apply Y_move_ptr; exact rfl)
    | (apply Y_lit1; exact (by first | with_reducible exact ety_binds | with_reducible exact ety_nodes | with_reducible exact ety_ints | with_reducible exact ety_nodess | with_reducible exact ety_toks | with_reducible exact ety_strs | with_reducible exact ety_u8s); exact (by first | with_reducible exact es_binds | with_reducible exact es_nodes | with_reducible exact es_ints | with_reducible exact es_nodess | with_reducible exact es_toks | with_reducible exact es_strs | with_reducible exact es_u8s); exact (by first | with_reducible exact zs_bind | with_reducible exact zs_node | with_reducible exact zs_int | with_reducible exact zs_nodes | with_reducible exact zs_tok | with_reducible exact zs_str | with_reducible exact zs_i64 | with_reducible exact zs_u8); exact rfl; exact rfl; (first | exact CoL_d rfl CoL_nil | exact CoL_b rfl rfl rfl CoL_nil | exact CoL_n rfl CoL_nil); exact rfl)
    | (apply awp_condT; exact rfl)
    | (apply awp_condF; exact rfl)
    | refine awp_block ?_
    | refine awp_skip ?_
    | refine awp_ret ?_
    | refine awp_exit ?_
    | refine en_e ?_
    | refine eb_n ?_
    | refine eb_e ?_
    | exact CoL_nil
    | refine CoL_d rfl ?_
  · simp only [List.length_map, List.length_singleton]; omega
  · obtain ⟨t, hjL⟩ := (hR j k v hjk).2
    have hjl : j < L.length := (List.getElem?_eq_some_iff.1 hjL).1
    have hn2 : (seen ++ [j]).Nodup := List.nodup_append.2 ⟨hn, by simp, fun a ha b hb => by rw [List.mem_singleton] at hb; subst hb; exact fun e => hnj (e ▸ ha)⟩
    have hj2 : ∀ i ∈ seen ++ [j], i < L.length := fun i hi => by
      rcases List.mem_append.1 hi with hi | hi
      · exact hj i hi
      · rw [List.mem_singleton] at hi; subst hi; exact hjl
    have hf2 := few_of _ _ hn2 hj2
    rw [List.length_append, List.length_singleton] at hf2
    refine ⟨(seen ++ [j], acc ++ [⟨k, rs k⟩]), ⟨hn2, hj2, ?_, by simp [hal]⟩, by simp only [List.length_append, List.length_singleton]; omega,
      Fits_mk (Le_cons rfl (Le_buf rfl (by simp) (Le_cons rfl Le_nil))) (Pre_cons rfl rfl (Pre_cons rfl rfl (Pre_cons rfl rfl (Pre_buf rfl rfl (by rw [List.map_append]; rfl) Pre_nil)))) rfl rfl⟩
    show acc ++ [⟨k, rs k⟩] = _
    rw [List.filterMap_append, ← hacc]
    simp [hjL, bdOf]
  · rw [List.length_map, List.length_map, (hP hall).length_eq]
  · rfl
set_option maxHeartbeats 4000000 in
/-- where one of the variables is too large -/
theorem Unify_big (n : Nat) (a b : List Nd) (L : Sto) (rs : Int → List Nd) (big : Int → Bool) (hla : a.length ≤ 2000000) (hlb : b.length ≤ 2000000) (h : uniF n [] a b = some (0, L)) (hB : StoB L) (hlen : L.length ≤ 1000000)
    (hg : ∀ p ∈ L, ckT (varN p.1) = 0 ∧ ∃ n m S', sizeF n L (varN p.1) [] = some (m, S') ∧ ((big p.1 = true ∧ m > 4000) ∨ (big p.1 = false ∧ ¬ m > 4000 ∧ (∃ n, resF n L (varN p.1) = some (rs p.1)) ∧ (rs p.1).length ≤ 1000000)))
    (hbig : ∃ p ∈ L, big p.1 = true) :
    PCall Tryz.prog 18 [nodes a, nodes b] (.tup [binds [], i64 92]) := by
  have hu := SUnify_ok 0 n [] a b 0 L hla hlb (fun p hp => by cases hp) h
  have hel : (encA nodes L).length = L.length := by simp [encA]
  refine pcall_ofC Tryz.func18 rfl Tryz.ntmps18 Tryz.results18 rfl ?_
  intro wb St0
  repeat' first
    | refine en_n ?_
    | refine awp_seq ?_
    | refine awp_region ?_
    | refine alex_nil ?_
    | refine w0 ?_
    | (apply Y_neqF; exact rfl; exact rfl; first | assumption | omega)
    | (refine aNCall [] hb_NewStore (NewStore_ok 0) ?_ rfl rfl (by decide) rfl rfl rfl rfl rfl rfl ?_; (repeat (refine SArgs_cons rfl ?_)); exact SArgs_nil)
    | (refine aMCall [1, 0] hb_SUnify (hu) ?_ rfl rfl (by decide) rfl rfl rfl rfl rfl rfl ?_; (repeat (refine SArgs_cons rfl ?_)); exact SArgs_nil)
    | (apply Y_nilc_p; exact rfl)
    | (apply aRangeM (hd := rfl) (hro := rfl); exact rfl; exact rfl; (with_reducible exact mt_51))
    | apply ay (hd := rfl)
    | (apply Y_move_d; exact rfl)
    | (apply Y_assign_d; exact rfl)
    | (apply Y_assign_nil; exact rfl)
    | (apply Y_move_ptr; exact rfl)
    | (apply Y_assign_ptr; exact rfl)
    | (apply Y_field_p; exact rfl; exact (by first | with_reducible exact fb_0 | with_reducible exact fb_1 | with_reducible exact fs_0 | with_reducible exact fs_1 | with_reducible exact fn_0 | with_reducible exact fn_1 | with_reducible exact fn_2 | with_reducible exact fn_3 | with_reducible exact fo_0 | with_reducible exact fo_1 | with_reducible exact fo_2 | with_reducible exact fo_3))
    | (apply Y_load_p; exact rfl; exact (by first | with_reducible exact tc_bind | with_reducible exact tc_m51 | with_reducible exact tc_m68 | with_reducible exact tc_pst | with_reducible exact tc_pf | with_reducible exact tcn_int | with_reducible exact tc_nodes | with_reducible exact tc_node | with_reducible exact tc_ints | with_reducible exact tcn_kind | with_reducible exact tcn_i64 | with_reducible exact tcn_str | with_reducible exact tcn_bool | with_reducible exact tc_str | with_reducible exact tc_int | with_reducible exact tc_kind | with_reducible exact tc_tok | with_reducible exact tc_u8s | with_reducible exact tc_toks | with_reducible exact tc_strs | with_reducible exact tc_bool | with_reducible exact tc_err | with_reducible exact tc_i64); exact rfl; exact rfl)
    | (apply awp_condF; exact rfl)
    | refine awp_block ?_
    | refine awp_skip ?_
  refine awp_newbuf 8 true 51 2 rfl rfl ?_
  refine awp_loopF (α := List Nat × List Bd) (fun p => p.1.Nodup ∧ (∀ j ∈ p.1, ∃ q, L[j]? = some q ∧ big q.1 = false) ∧ p.2.length = p.1.length) (fun p => [(6, .ptr 1 0), (8, .buf 3 (p.2.map Bd.av).length), (24, .ptr 2 0)])
    (fun p => [.map none (mSto L), .bx none none [.d (i64 0), .mp 0], .miter 0 (encA nodes L).length p.1 (encA nodes L).length, .buf true 51 2 (p.2.map Bd.av)]) (fun p => L.length - p.1.length) ([], []) ⟨List.nodup_nil, by simp, rfl⟩
    (Fits_mk (Le_cons rfl (Le_buf rfl rfl (Le_cons rfl Le_nil))) (Pre_cons rfl rfl (Pre_cons rfl rfl (Pre_cons rfl rfl (Pre_buf rfl rfl rfl Pre_nil)))) rfl rfl) ?_
  rintro ⟨seen, acc⟩ ⟨hn, hj, hal⟩
  dsimp only at hn hj hal ⊢
  have hj1 : ∀ j ∈ seen, j < L.length := fun j hm => by obtain ⟨q, hq, _⟩ := hj j hm; exact (List.getElem?_eq_some_iff.1 hq).1
  have hfew := few_of _ _ hn hj1
  have hR : ∀ (j : Nat) (k : Int) (v : D), (encA nodes L)[j]? = some (k, v) → (MCall Tryz.prog 25 [.ptr 0 0, .d (nodes (varN k))] (stO 0 L) (.pair .nil (.d (i64 92))) (stO 0 L)) ∨
      (MCall Tryz.prog 25 [.ptr 0 0, .d (nodes (varN k))] (stO 0 L) (.pair (.d (nodes (rs k))) (.d (i64 0))) (stO 0 L) ∧ ∃ t, L[j]? = some (k, t) ∧ big k = false) := fun j k v hjk => by
    obtain ⟨t, hjL, _⟩ : ∃ t, L[j]? = some (k, t) ∧ v = nodes t := by
      rw [encA, List.getElem?_map] at hjk
      cases hq : L[j]? with
      | none => rw [hq] at hjk; cases hjk
      | some p => rw [hq] at hjk; injection hjk with hjk; injection hjk with q1 q2; subst q1; exact ⟨p.2, rfl, q2.symm⟩
    obtain ⟨hc, n1, m, S', hsz, hm⟩ := hg _ (List.mem_of_getElem? hjL)
    rcases hm with ⟨_, hm⟩ | ⟨hb, hm, ⟨n2, hres⟩, hrl⟩
    · exact .inl (Resolve_big 0 L (varN k) n1 m S' hB (by simp [varN]) hc hsz hm)
    · exact .inr ⟨Resolve_ok 0 L (varN k) (rs k) n1 n2 m S' hB (by simp [varN]) hc hsz hm hres hrl, t, hjL, hb⟩
  have hP : (∀ j, j < (encA nodes L).length → j ∈ seen) → False := fun hall => by
    obtain ⟨p, hp, hpb⟩ := hbig
    obtain ⟨j, hpj⟩ := List.mem_iff_getElem?.1 hp
    obtain ⟨q, hq, hqb⟩ := hj j (hall j (by rw [hel]; exact (List.getElem?_eq_some_iff.1 hpj).1))
    rw [hpj] at hq; injection hq with hq; subst hq
    rw [hpb] at hqb; cases hqb
  repeat' first
    | (refine aNextM (it := 2) (id := 0) (enc := ki) (L := encA nodes L) (since := (encA nodes L).length) (st := (encA nodes L).length) (seen := seen) rfl rfl rfl rfl rfl rfl rfl ?_ (fun hall => (hP hall).elim); (intro j k v hjk hnj); rcases hR j k v hjk with hr | ⟨hr, hr2⟩)
    | refine en_n ?_
    | refine awp_seq ?_
    | refine awp_region ?_
    | refine alex_nil ?_
    | refine w0 ?_
    | (apply Y_neqT; exact rfl; exact rfl; first | assumption | omega)
    | (apply Y_neqF; exact rfl; exact rfl; first | assumption | omega)
    | (refine rpostC_ret ?_)
    | (refine resC_tup ?_)
    | exact RV_nil
    | (refine RV_d rfl ?_ ?_)
    | (refine RV_n rfl ?_ ?_)
    | (with_reducible exact rfl)
    | (refine Y_entry (κ := Int) (enc := ki) (L := encA nodes L) (k := k) (v := v) (j := j) (seen := seen) (it := 2) (id := 0) rfl rfl rfl rfl hjk)
    | (apply Y_call (hb := hb_variable) (hc := variable_ok k))
    | (refine aMCall [1, 0] hb_Resolve (hr) ?_ rfl rfl (by decide) rfl rfl rfl rfl rfl rfl ?_; (repeat (refine SArgs_cons rfl ?_)); exact SArgs_nil)
    | (apply Y_ext0; exact rfl)
    | (apply Y_ext1; exact rfl)
    | (apply Y_buildD; exact pl_bind; exact zo_bind; exact PD_d rfl rfl (PD_d rfl rfl PD_nil); exact rfl)
    | (apply aApp (id := 3) (hd := rfl) (hro := rfl); exact rfl; exact rfl; (first | exact Co_dd rfl | exact Co_bb rfl rfl rfl | exact Co_nn rfl); (first | exact rfl | exact (by simp)); exact rfl; exact (by first | with_reducible exact ety_binds | with_reducible exact ety_nodes | with_reducible exact ety_ints | with_reducible exact ety_nodess | with_reducible exact ety_toks | with_reducible exact ety_strs | with_reducible exact ety_u8s); exact (by first | with_reducible exact es_binds | with_reducible exact es_nodes | with_reducible exact es_ints | with_reducible exact es_nodess | with_reducible exact es_toks | with_reducible exact es_strs | with_reducible exact es_u8s); exact (by first | with_reducible exact zl_bind | with_reducible exact zl_node | with_reducible exact zl_int | with_reducible exact zl_nodes | with_reducible exact zl_tok | with_reducible exact zl_str | with_reducible exact zl_i64 | with_reducible exact zl_u8); exact (by first | with_reducible exact by_binds | with_reducible exact by_nodes | with_reducible exact by_ints | with_reducible exact by_nodess | with_reducible exact by_toks | with_reducible exact by_strs | with_reducible exact by_u8s); (first | exact sz_map (fun _ => rfl) | exact sz_lit rfl))
    | (refine Y_copy (x := .tmp 33) (s := .pair (.d (nodes (rs k))) (.d (i64 0))) (.inl rfl) rfl)
    | (refine Y_copy (x := .tmp 33) (s := .pair .nil (.d (i64 92))) (.inl rfl) rfl)
    | apply ay (hd := rfl)
    | (apply Y_move_d; exact rfl)
    | (apply Y_assign_d; exact rfl)
    | (apply Y_extract; exact rfl; exact rfl)
    | (apply Y_assign_nil; exact rfl)
    | (apply Y_move_buf; exact rfl)
    | (apply Y_assign_buf; exact rfl)
    | (apply Y_move_ptr; exact rfl)
    | (apply Y_lit1; exact (by first | with_reducible exact ety_binds | with_reducible exact ety_nodes | with_reducible exact ety_ints | with_reducible exact ety_nodess | with_reducible exact ety_toks | with_reducible exact ety_strs | with_reducible exact ety_u8s); exact (by first | with_reducible exact es_binds | with_reducible exact es_nodes | with_reducible exact es_ints | with_reducible exact es_nodess | with_reducible exact es_toks | with_reducible exact es_strs | with_reducible exact es_u8s); exact (by first | with_reducible exact zs_bind | with_reducible exact zs_node | with_reducible exact zs_int | with_reducible exact zs_nodes | with_reducible exact zs_tok | with_reducible exact zs_str | with_reducible exact zs_i64 | with_reducible exact zs_u8); exact rfl; exact rfl; (first | exact CoL_d rfl CoL_nil | exact CoL_b rfl rfl rfl CoL_nil | exact CoL_n rfl CoL_nil); exact rfl)
    | (apply awp_condT; exact rfl)
    | (apply awp_condF; exact rfl)
    | refine awp_block ?_
    | refine awp_skip ?_
    | refine awp_ret ?_
    | refine en_r ?_
    | refine eb_n ?_
    | refine eb_r ?_
    | exact CoL_nil
    | refine CoL_d rfl ?_
  · rfl
  · simp only [List.length_map, List.length_singleton]; omega
  · obtain ⟨t, hjL, hkb⟩ := hr2
    have hjl : j < L.length := (List.getElem?_eq_some_iff.1 hjL).1
    have hn2 : (seen ++ [j]).Nodup := List.nodup_append.2 ⟨hn, by simp, fun a ha b hb => by rw [List.mem_singleton] at hb; subst hb; exact fun e => hnj (e ▸ ha)⟩
    have hj2 : ∀ i ∈ seen ++ [j], ∃ q, L[i]? = some q ∧ big q.1 = false := fun i hi => by
      rcases List.mem_append.1 hi with hi | hi
      · exact hj i hi
      · rw [List.mem_singleton] at hi; subst hi; exact ⟨_, hjL, hkb⟩
    have hf2 := few_of _ _ hn2 (fun i hi => by obtain ⟨q, hq, _⟩ := hj2 i hi; exact (List.getElem?_eq_some_iff.1 hq).1)
    rw [List.length_append, List.length_singleton] at hf2
    exact ⟨(seen ++ [j], acc ++ [⟨k, rs k⟩]), ⟨hn2, hj2, by simp [hal]⟩, by simp only [List.length_append, List.length_singleton]; omega,
      Fits_mk (Le_cons rfl (Le_buf rfl (by simp) (Le_cons rfl Le_nil))) (Pre_cons rfl rfl (Pre_cons rfl rfl (Pre_cons rfl rfl (Pre_buf rfl rfl (by rw [List.map_append]; rfl) Pre_nil)))) rfl rfl⟩
end Go.Proofs.YtamhkcnpocdfcaaGreatDoor
/- The statements on types: what the program's Unify answers. -/
namespace Go.Proofs.YtamhkcnpocdfcaaGreatDoor
open Go.Sx

theorem Unify_UR (a b : List Nd) (hla : a.length ≤ 2000000) (hlb : b.length ≤ 2000000) : ∃ l e, UR a b l e ∧ PCall Tryz.prog 18 [nodes a, nodes b] (.tup [binds l, i64 e]) := by
  by_cases hbad : ckT a ≠ 0 ∨ ckT b ≠ 0
  · exact ⟨[], 90, .bad hbad, Unify_no 0 a b 90 [] hla hlb (by rw [uniF, if_pos hbad]) (by decide)⟩
  have ca : ckT a = 0 := Classical.byContradiction fun h => hbad (.inl h)
  have cb : ckT b = 0 := Classical.byContradiction fun h => hbad (.inr h)
  have oa := ck_ok.1 ca
  have ob := ck_ok.1 cb
  have la := (okT_len oa).1
  have lb := (okT_len ob).1
  have hu : ∀ n, uniF n [] a b = sameF n [] a b := fun n => by rw [uniF, if_neg hbad]
  rcases mgu (V := vsL a ++ vsL b) (Gd_of oa fun x hx => List.mem_append_left _ (vsL_in hx)) (Gd_of ob fun x hx => List.mem_append_right _ (vsL_in hx)) with ⟨L, ρ, he, hI, hs⟩ | ⟨L, he, hn⟩
  · obtain ⟨n, hn⟩ := he.get
    have hlen : L.length ≤ 1000000 := by
      have := hI.cnt
      rw [List.length_append, vsL, vsL, List.length_map, List.length_map] at this; omega
    have hB : StoB L := fun p hp => by
      have := (hI.gd _ _ (lookA_of_mem hI.nd hp)).len; omega
    have base : ∀ p ∈ L, ckT (varN p.1) = 0 ∧ ∃ n S', sizeF n L (varN p.1) [] = some (min ((ρ p.1).length : Int) 4001, S') := fun p hp => by
      have hr := (hI.ky p hp).2
      have ty : Ty (varN p.1) := Ty_var hr
      refine ⟨ck_ok.2 (ok_of ty (by simp [varN])), ?_⟩
      obtain ⟨S', e⟩ := hI.size ty
      obtain ⟨k, hk⟩ := e.get
      rw [show sub ρ (varN p.1) = ρ p.1 from sub_var ρ p.1] at hk
      exact ⟨k, S', hk⟩
    have res : ∀ p ∈ L, ∃ n, resF n L (varN p.1) = some (ρ p.1) := fun p hp => by
      obtain ⟨k, hk⟩ := (hI.res (Ty_var (hI.ky p hp).2)).get
      rw [sub_var] at hk; exact ⟨k, hk⟩
    by_cases hg : ∃ k t, lookA L k = some t ∧ 4000 < (ρ k).length
    · refine ⟨[], 92, .big _ L ρ ca cb hI hs hg, Unify_big n a b L ρ (fun k => decide (4000 < (ρ k).length)) hla hlb (by rw [hu]; exact hn) hB hlen (fun p hp => ?_) ?_⟩
      · obtain ⟨h1, k, S', h2⟩ := base p hp
        refine ⟨h1, k, _, S', h2, ?_⟩
        by_cases hc : 4000 < (ρ p.1).length
        · exact .inl ⟨decide_eq_true hc, by omega⟩
        · exact .inr ⟨decide_eq_false hc, by omega, res p hp, by omega⟩
      · obtain ⟨k, t, hk, hlt⟩ := hg
        exact ⟨(k, t), lookA_mem hk, decide_eq_true hlt⟩
    · have hg2 : ∀ k t, lookA L k = some t → (ρ k).length ≤ 4000 := fun k t hk => Nat.le_of_not_lt fun c => hg ⟨k, t, hk, c⟩
      refine ⟨bindsOf L ρ, 0, .yes _ L ρ ca cb hI hs hg2, Unify_yes n a b L ρ (bindsOf L ρ) hla hlb (by rw [hu]; exact hn) hB hlen (fun p hp => ?_) (bindsOf_perm L ρ) (bindsOf_sorted hI)⟩
      obtain ⟨h1, k, S', h2⟩ := base p hp
      have := hg2 p.1 p.2 (lookA_of_mem hI.nd hp)
      exact ⟨h1, ⟨k, _, S', h2, by omega⟩, res p hp, by omega⟩
  · obtain ⟨n, hn2⟩ := he.get
    exact ⟨[], 91, .no ca cb hn, Unify_no n a b 91 L hla hlb (by rw [hu]; exact hn2) (by decide)⟩
end Go.Proofs.YtamhkcnpocdfcaaGreatDoor
/- The statements on types: the walks of show's small closures. -/
namespace Go.Proofs.YtamhkcnpocdfcaaGreatDoor
open Go.Sx
attribute [local irreducible] hasBody Program.underlying Ylds astep alex alexE alexD awp PCall FCall RCall MCall QCall athen ablock ajump rpost fpost mpost rpostC
theorem show3_ok (n : Nd) : PCall Tryz.prog 54 [n.av] (bl false) := by
  refine pcall_of Tryz.func54 rfl Tryz.ntmps54 Tryz.results54 rfl ?_
  intro wb St0
  repeat' first
    | refine en_n ?_
    | refine awp_seq ?_
    | refine awp_region ?_
    | refine alex_nil ?_
    | refine w0 ?_
    | (apply aBox (hd := rfl) (hro := rfl); exact rfl; exact rfl)
    | apply ay (hd := rfl)
    | (apply Y_assign_d; exact rfl)
    | refine awp_ret ?_
    | refine rpost_ret ?_
    | (apply res1; exact rfl)
  all_goals rfl
theorem show4_ok (n : Nd) : PCall Tryz.prog 55 [n.av] (bl (decide (n.kids > 0))) := by
  refine pcall_of Tryz.func55 rfl Tryz.ntmps55 Tryz.results55 rfl ?_
  intro wb St0
  repeat' first
    | refine en_n ?_
    | refine awp_seq ?_
    | refine awp_region ?_
    | refine alex_nil ?_
    | refine w0 ?_
    | (apply aBox (hd := rfl) (hro := rfl); exact rfl; exact rfl)
    | apply ay (hd := rfl)
    | (apply Y_assign_d; exact rfl)
    | (apply Y_gtr; exact rfl; exact rfl)
    | (apply Y_field_p; exact rfl; exact (by first | with_reducible exact fb_0 | with_reducible exact fb_1 | with_reducible exact fs_0 | with_reducible exact fs_1 | with_reducible exact fn_0 | with_reducible exact fn_1 | with_reducible exact fn_2 | with_reducible exact fn_3 | with_reducible exact fo_0 | with_reducible exact fo_1 | with_reducible exact fo_2 | with_reducible exact fo_3))
    | (apply Y_load_p; exact rfl; exact (by first | with_reducible exact tc_bind | with_reducible exact tc_m51 | with_reducible exact tc_m68 | with_reducible exact tc_pst | with_reducible exact tc_pf | with_reducible exact tcn_int | with_reducible exact tc_nodes | with_reducible exact tc_node | with_reducible exact tc_ints | with_reducible exact tcn_kind | with_reducible exact tcn_i64 | with_reducible exact tcn_str | with_reducible exact tcn_bool | with_reducible exact tc_str | with_reducible exact tc_int | with_reducible exact tc_kind | with_reducible exact tc_tok | with_reducible exact tc_u8s | with_reducible exact tc_toks | with_reducible exact tc_strs | with_reducible exact tc_bool | with_reducible exact tc_err | with_reducible exact tc_i64); exact rfl; exact rfl)
    | refine awp_ret ?_
    | refine rpost_ret ?_
    | (apply res1; exact rfl)
  all_goals rfl
theorem show2_ok (n : Nd) : PCall Tryz.prog 53 [n.av] (bl (decide (n.text = [45, 62]))) := by
  refine pcall_of Tryz.func53 rfl Tryz.ntmps53 Tryz.results53 rfl ?_
  intro wb St0
  repeat' first
    | refine en_n ?_
    | refine awp_seq ?_
    | refine awp_region ?_
    | refine alex_nil ?_
    | refine w0 ?_
    | (apply Y_eqs; exact rfl; exact rfl)
    | (apply aBox (hd := rfl) (hro := rfl); exact rfl; exact rfl)
    | apply ay (hd := rfl)
    | (apply Y_assign_d; exact rfl)
    | (apply Y_field_p; exact rfl; exact (by first | with_reducible exact fb_0 | with_reducible exact fb_1 | with_reducible exact fs_0 | with_reducible exact fs_1 | with_reducible exact fn_0 | with_reducible exact fn_1 | with_reducible exact fn_2 | with_reducible exact fn_3 | with_reducible exact fo_0 | with_reducible exact fo_1 | with_reducible exact fo_2 | with_reducible exact fo_3))
    | (apply Y_load_p; exact rfl; exact (by first | with_reducible exact tc_bind | with_reducible exact tc_m51 | with_reducible exact tc_m68 | with_reducible exact tc_pst | with_reducible exact tc_pf | with_reducible exact tcn_int | with_reducible exact tc_nodes | with_reducible exact tc_node | with_reducible exact tc_ints | with_reducible exact tcn_kind | with_reducible exact tcn_i64 | with_reducible exact tcn_str | with_reducible exact tcn_bool | with_reducible exact tc_str | with_reducible exact tc_int | with_reducible exact tc_kind | with_reducible exact tc_tok | with_reducible exact tc_u8s | with_reducible exact tc_toks | with_reducible exact tc_strs | with_reducible exact tc_bool | with_reducible exact tc_err | with_reducible exact tc_i64); exact rfl; exact rfl)
    | refine awp_ret ?_
    | refine rpost_ret ?_
    | (apply res1; exact rfl)
  all_goals rfl
theorem Show_no (L : List Nd) (hL : L.length ≤ 2000000) (hc : ckT L ≠ 0) : PCall Tryz.prog 7 [nodes L] (.tup [str [], i64 (ckT L)]) := by
  refine pcall_ofC Tryz.func7 rfl Tryz.ntmps7 Tryz.results7 rfl ?_
  intro wb St0
  repeat' first
    | refine en_n ?_
    | refine awp_seq ?_
    | refine awp_region ?_
    | refine alex_nil ?_
    | refine w0 ?_
    | (apply Y_neqT; exact rfl; exact rfl; first | assumption | omega)
    | (refine rpostC_ret ?_)
    | (refine resC_tup ?_)
    | exact RV_nil
    | (refine RV_d rfl ?_ ?_)
    | (with_reducible exact rfl)
    | (apply Y_call (hb := hb_Check) (hc := Check_ok L hL); exact CoL_d rfl CoL_nil)
    | apply ay (hd := rfl)
    | (apply Y_move_d; exact rfl)
    | (apply Y_assign_d; exact rfl)
    | (apply awp_condT; exact rfl)
    | refine awp_ret ?_
    | refine en_r ?_
  all_goals rfl

/-! ### show, plainly: by fuel -/
/-- an argument: in parentheses where p says so -/
def argF (f : Nat → Option (List UInt8 × Nat)) (L : List Nd) (p : Nd → Bool) (i : Nat) : Option (List UInt8 × Nat) := match L[i]?, f i with
  | some y, some (s, j) => some (if p y then 40 :: s ++ [41] else s, j)
  | _, _ => none
/-- the text of the type that begins at place i, and the place behind it -/
def showF : Nat → List Nd → Nat → Option (List UInt8 × Nat)
  | 0, _, _ => none
  | n + 1, L, i => match L[i]? with
    | none => none
    | some x =>
      if x.kind = 31 then some (39 :: Lib.itoa x.num, i + 1)
      else if x.text = [45, 62] then (match argF (showF n L) L (fun y => decide (y.text = [45, 62])) (i + 1) with
        | some (u, j) => (match argF (showF n L) L (fun _ => false) j with
          | some (v, k) => some (u ++ [32, 45, 62, 32] ++ v, k)
          | none => none)
        | none => none)
      else foldO (fun (p : List UInt8 × Nat) (_ : Nat) => match argF (showF n L) L (fun y => decide (y.kids > 0)) p.2 with
        | some (u, j) => some (p.1 ++ 32 :: u, j)
        | none => none) (x.text, i + 1) (List.range x.kids.toNat)
end Go.Proofs.YtamhkcnpocdfcaaGreatDoor
