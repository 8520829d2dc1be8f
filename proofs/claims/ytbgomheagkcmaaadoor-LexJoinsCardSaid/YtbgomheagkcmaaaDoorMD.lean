/- Texts of this claim, merged: LexV, LexW, LexX, LexY, LexZA, LexYA, LexYC, LexYD, LexYB, LexYE, LexYF. -/
import Derived.Lib.Join
import Derived.Test.YtbgomheagkcmaaaDoorRows
import Derived.ProofKit
import Derived.Deep.Slices
import Derived.Deep.Fields
import Derived.ChangeSame
import Derived.OpenShut
import Derived.LaidMore
import Derived.Lay
import Derived.Stop.Joined
import Derived.Stop.LaidErr
import Derived.Shelf.Vars
import Derived.Lib.LaidTab
import Derived.Laws.StructEq
import Derived.ChangeKeysEq
import Derived.Test.YtbgomheagkcmaaaDoorMC
/- The token statements: the walks of Show, Same, and of the statements' own helpers. -/
namespace Go.Proofs.YtbgomheagkcmaaaDoor
open Go.Sx Go.RowKit Go.Lib

def stp (t : Tk) : Int × List UInt8 × Int := (t.kind, t.text, t.num)
def sameT (x y : Tk) : Bool := decide (stp x = stp y)
def sameF (A B : List Tk) : Bool := decide (A.map stp = B.map stp)
theorem sameT_iff {x y : Tk} : sameT x y = true ↔ x.kind = y.kind ∧ x.text = y.text ∧ x.num = y.num := by simp [sameT, stp]
theorem same_len {A B : List Tk} (h : ¬ A.length = B.length) : sameF A B = false := by
  rw [sameF, decide_eq_false_iff_not]; intro e
  have := congrArg List.length e
  simp at this; exact h this
theorem same_no {A B : List Tk} {i : Nat} {x y : Tk} (h1 : A[i]? = some x) (h2 : B[i]? = some y) (h : sameT x y = false) : sameF A B = false := by
  rw [sameF, decide_eq_false_iff_not]; intro e
  have := congrArg (fun l => l[i]?) e
  simp only [List.getElem?_map, h1, h2, Option.map_some, Option.some.injEq] at this
  rw [sameT, decide_eq_false_iff_not] at h; exact h this
theorem same_yes {A B : List Tk} (hl : A.length = B.length) (h : ∀ (j : Nat) x y, A[j]? = some x → B[j]? = some y → sameT x y = true) : sameF A B = true := by
  rw [sameF, decide_eq_true_eq]
  refine List.ext_getElem? fun j => ?_
  rw [List.getElem?_map, List.getElem?_map]
  rcases Nat.lt_or_ge j A.length with hj | hj
  · have e1 : A[j]? = some A[j] := List.getElem?_eq_getElem hj
    have e2 : B[j]? = some (B[j]'(by omega)) := List.getElem?_eq_getElem (by omega)
    have := h j _ _ e1 e2
    rw [sameT, decide_eq_true_eq] at this
    rw [e1, e2, Option.map_some, Option.map_some, this]
  · rw [List.getElem?_eq_none hj, List.getElem?_eq_none (by omega)]

theorem Join_ok (L : List (List UInt8)) (sep : List UInt8) (hL : L.length ≤ 1000000) (hj : (Lib.join L sep).length ≤ 100000000) : PCall Tryd.prog 32 [strs L, str sep] (str (Lib.join L sep)) := by
  intro St w vs hst hgl hr
  match vs, hr with
  | [v1, v2], hr =>
    obtain ⟨h1, h2, _⟩ := hr
    have e2 := RepD.val_eq h2
    subst e2
    have fin : ∀ (e : Ending) (w' : World), (e = .returned (.string ⟨(Lib.join L sep).toArray⟩) ∧ Below w.heap.size w w') → ∃ v St', e = .returned v ∧ RepD St' w' v (str (Lib.join L sep)) ∧ Below w.heap.size w w' ∧ Keep St w St' w' ∧ (∀ b o, St' b o → St b o ∨ w.heap.size ≤ b) ∧ (∀ b o, St' b o → b < w'.heap.size) := fun e w' ⟨he, hb⟩ =>
      ⟨_, St, he, .val _, hb, ⟨fun _ _ h => h, fun b o u hc hu => (World.cell?_of_block (a := ⟨b, o, none⟩) (hb.block b (hst b o hc))).trans hu, fun b hc => hb.block b (hst b 0 (hc 0))⟩, fun b o h => .inl h, fun b o h => Nat.lt_of_lt_of_le (hst b o h) hb.size⟩
    obtain ⟨a, cap, us, rfl, hcap, hm, hul, h1c, hcell, hrep⟩ := RepD.open_slice h1 (sz := 1) (fun x hx => by obtain ⟨l, _, rfl⟩ := List.mem_map.1 hx; rfl)
    rw [List.length_map] at hcap hul hcell
    rw [Nat.mul_one] at hul
    rw [List.length_map]
    cases L with
    | nil => exact (Tryd.strings_Join_none a cap ⟨sep.toArray⟩ w).mono fun e w' ⟨he, hw⟩ => fin e w' ⟨he, by subst hw; exact Below.refl _ _⟩
    | cons x L =>
      obtain ⟨ad, rfl, hc⟩ := hcell (by simp)
      have hus : ∀ (j : Nat) y, (x :: L)[j]? = some y → us[j]? = some (.string ⟨y.toArray⟩) := fun j y hy => by
        have hjl : j < us.length := by have := (List.getElem?_eq_some_iff.1 hy).1; omega
        have e1 : us[j]? = some us[j] := List.getElem?_eq_getElem hjl
        have := hrep j us[j] (str y) e1 (by rw [flats_strs, List.getElem?_map, hy]; rfl)
        rw [e1, RepD.val_eq this]
      have h0 := hc 0 _ (hus 0 x rfl)
      have had : ad = ⟨ad.block, ad.off, none⟩ := by have := cell_addr h0.2; rwa [Addr.add, if_pos rfl] at this
      have hcells : ∀ (j : Nat) y, ((x :: L).map fun l => (⟨l.toArray⟩ : ByteArray))[j]? = some y → w.cell? ⟨ad.block, ad.off + j, none⟩ = some (.string y) := fun j y hy => by
        rw [List.getElem?_map] at hy
        cases hl : (x :: L)[j]? with
        | none => rw [hl] at hy; cases hy
        | some l =>
          rw [hl] at hy; cases hy
          have h2 := hc j _ (hus j l hl)
          have h3 := h2.2; rwa [cell_addr h2.2] at h3
      have ej : Lib.join (((x :: L).map fun l => (⟨l.toArray⟩ : ByteArray)).map (·.data.toList)) (⟨sep.toArray⟩ : ByteArray).data.toList = Lib.join (x :: L) sep := by
        rw [List.map_map]; congr 1
        conv => rhs; rw [← List.map_id (x :: L)]
        exact List.map_congr_left fun l _ => rfl
      have := Tryd.strings_Join ad.block ad.off cap ((x :: L).map fun l => (⟨l.toArray⟩ : ByteArray)) ⟨sep.toArray⟩ w hcells (hst _ _ h0.1) (by rw [List.length_map]; omega) (by rw [List.length_map]; omega) (by rw [ej]; omega)
      rw [ej, List.length_map] at this
      rw [had]
      exact this.mono fun e w' h => fin e w' h
  | [], hr => exact hr.elim
  | [_], hr => exact hr.2.elim
  | _ :: _ :: _ :: _, hr => exact hr.2.2.elim

attribute [local irreducible] hasBody Program.underlying Ylds astep alex alexE alexD awp PCall FCall RCall MCall QCall athen ablock ajump rpost fpost mpost rpostC

theorem Same1_ok (x y : Tk) : PCall Tryd.prog 34 [x.av, y.av] (bl (sameT x y)) := by
  refine pcall_of Tryd.func34 rfl Tryd.ntmps34 Tryd.results34 rfl ?_
  intro wb St0
  repeat' first
    | refine en_n ?_
    | refine awp_seq ?_
    | refine awp_region ?_
    | refine alex_nil ?_
    | refine w0 ?_
    | (apply k1u (hd := rfl); exact rfl; exact rfl)
    | (apply Y_eqs; exact rfl; exact rfl)
    | (apply aBox (hd := rfl) (hro := rfl); exact rfl; exact rfl)
    | apply ay (hd := rfl)
    | (apply Y_move_d; exact rfl)
    | (apply Y_assign_d; exact rfl)
    | (apply Y_eql; exact rfl; exact rfl)
    | (apply Y_pick_t; exact rfl; exact rfl)
    | (apply Y_pick_f; exact rfl; exact rfl)
    | (apply Y_field_p; exact rfl; exact (by first | with_reducible exact fo_0 | with_reducible exact fo_1 | with_reducible exact fo_2 | with_reducible exact fo_3))
    | (apply Y_load_p; exact rfl; exact (by first | with_reducible exact tc_str | with_reducible exact tc_int | with_reducible exact tc_kind | with_reducible exact tc_tok | with_reducible exact tc_u8s | with_reducible exact tc_toks | with_reducible exact tc_strs | with_reducible exact tc_bool | with_reducible exact tc_err | with_reducible exact tc_i64); exact rfl; exact rfl)
    | (apply w1; exact rfl; exact rfl)
    | (apply gD; exact rfl; exact rfl; (intro hb); rotate_left; (intro hb); rotate_right)
    | refine awp_ret ?_
    | refine rpost_ret ?_
    | (apply res1; exact rfl)
  all_goals exact bl_is (by rw [Bool.eq_iff_iff, sameT_iff]; simp [*])
theorem EqualFunc_ok (A B : List Tk) (hA : A.length ≤ 1000000) (_hB : B.length ≤ 1000000) : QCall Tryd.prog 33 [.d (toks A), .d (toks B), .clo 34 []] [] (bl (sameF A B)) := by
  refine qcall_of Tryd.func33 rfl Tryd.ntmps33 Tryd.results33 rfl ?_
  intro wb St0
  repeat' first
    | refine en_n ?_
    | refine awp_seq ?_
    | refine awp_region ?_
    | refine alex_nil ?_
    | refine w0 ?_
    | apply ay (hd := rfl)
    | (apply Y_move_d; exact rfl)
    | (apply Y_assign_d; exact rfl)
    | (apply Y_len_m; exact rfl; exact (by first | with_reducible exact et_toks | with_reducible exact et_strs | with_reducible exact et_u8s))
    | (apply Y_neq; exact rfl; exact rfl)
    | (apply awp_condD; exact rfl; (intro hb); rotate_left; (intro hb); rotate_right)
    | refine awp_block ?_
    | refine awp_skip ?_
    | refine awp_ret ?_
    | refine en_r ?_
    | refine rpost_ret ?_
    | (apply res1; exact rfl)
  · exact bl_is (same_len (by omega)).symm
  refine awp_loopF (α := Nat) (fun i => i ≤ A.length ∧ ∀ (j : Nat) x y, j < i → A[j]? = some x → B[j]? = some y → sameT x y = true) (fun i => [(0, .d (toks A)), (1, .d (toks B)), (2, .clo 34 []), (15, .d (toks A)), (16, .d (i64 (A.length : Int))), (17, .d (i64 (i : Int)))]) (fun _ => []) (fun i => A.length - i) 0 ⟨Nat.zero_le _, fun _ _ _ h => by omega⟩
      (Fits_mk (Le_cons rfl (Le_cons rfl (Le_cons rfl (Le_cons rfl (Le_cons rfl (Le_cons rfl Le_nil)))))) Pre_nil rfl rfl) ?_
  rintro i ⟨hi1, hi2⟩
  repeat' first
    | refine en_n ?_
    | refine awp_seq ?_
    | refine awp_region ?_
    | refine alex_nil ?_
    | refine w0 ?_
    | (apply Y_move_clo; exact rfl)
    | (refine Y_pclo rfl hb_Same1 (Same1_ok _ _) (CoL_d rfl (CoL_d rfl CoL_nil)))
    | (apply aI (hd := rfl); (first | exact Co_dd rfl | exact Co_bb rfl rfl rfl | exact Co_nn rfl); exact rfl; exact (by first | with_reducible exact es_toks | with_reducible exact es_strs | with_reducible exact es_u8s); exact fun _ => rfl; rotate_left; intro v hv; rotate_right)
    | (apply aAlloc (hd := rfl) (hro := rfl); exact (by first | with_reducible exact zo_tok | with_reducible exact zo_int | with_reducible exact zo_i64))
    | apply ay (hd := rfl)
    | (apply Y_move_d; exact rfl)
    | (apply Y_assign_d; exact rfl)
    | (apply Y_load_r; exact rfl; exact (by first | with_reducible exact tc_str | with_reducible exact tc_int | with_reducible exact tc_kind | with_reducible exact tc_tok | with_reducible exact tc_u8s | with_reducible exact tc_toks | with_reducible exact tc_strs | with_reducible exact tc_bool | with_reducible exact tc_err | with_reducible exact tc_i64); exact rfl)
    | (apply Y_lss; exact rfl; exact rfl)
    | (apply Y_add; exact rfl; exact rfl)
    | (apply Y_not; exact rfl)
    | (apply Y_load_pa; exact rfl; exact (by first | with_reducible exact tc_str | with_reducible exact tc_int | with_reducible exact tc_kind | with_reducible exact tc_tok | with_reducible exact tc_u8s | with_reducible exact tc_toks | with_reducible exact tc_strs | with_reducible exact tc_bool | with_reducible exact tc_err | with_reducible exact tc_i64); exact rfl; exact rfl; exact rfl)
    | (refine w0' ?_)
    | (apply aStore; exact rfl; exact rfl; exact rfl; exact (by first | with_reducible exact tc_str | with_reducible exact tc_int | with_reducible exact tc_kind | with_reducible exact tc_tok | with_reducible exact tc_u8s | with_reducible exact tc_toks | with_reducible exact tc_strs | with_reducible exact tc_bool | with_reducible exact tc_err | with_reducible exact tc_i64); exact rfl; exact rfl; exact rfl; exact rfl)
    | (apply awp_condD; exact rfl; (intro hb); rotate_left; (intro hb); rotate_right)
    | (apply awp_condN; exact rfl; (intro hb); rotate_left; (intro hb); rotate_right)
    | refine awp_block ?_
    | refine awp_skip ?_
    | refine awp_ret ?_
    | refine awp_exit ?_
    | refine en_r ?_
    | refine en_e ?_
    | refine eb_n ?_
    | refine eb_r ?_
    | refine eb_e ?_
    | refine rpost_ret ?_
    | (apply res1; exact rfl)
  all_goals try omega
  · exact bl_is (same_no (i := i) ‹A[Int.toNat (i : Int)]? = some _› ‹B[Int.toNat (i : Int)]? = some _› (decide_eq_false hb)).symm
  · refine ⟨i + 1, ⟨by omega, fun j x y hj h1 h2 => ?_⟩, by omega, Fits_mk (Le_cons rfl (Le_cons rfl (Le_cons rfl (Le_cons rfl (Le_cons rfl (Le_cons rfl Le_nil)))))) Pre_nil rfl rfl⟩
    rcases Nat.lt_or_ge j i with h | h
    · exact hi2 j x y h h1 h2
    · have hst := decide_eq_true hb
      have e : j = i := by omega
      subst e
      have e1 := ‹A[Int.toNat (j : Int)]? = some _›.symm.trans h1
      have e2 := ‹B[Int.toNat (j : Int)]? = some _›.symm.trans h2
      cases e1; cases e2; exact hst
  · exact bl_is (same_yes (by omega) fun j x y h1 h2 => hi2 j x y (by have := (List.getElem?_eq_some_iff.1 h1).1; omega) h1 h2).symm
theorem Same_ok (A B : List Tk) (hA : A.length ≤ 1000000) (hB : B.length ≤ 1000000) : PCall Tryd.prog 19 [toks A, toks B] (bl (sameF A B)) := by
  refine pcall_of Tryd.func19 rfl Tryd.ntmps19 Tryd.results19 rfl ?_
  intro wb St0
  repeat' first
    | refine en_n ?_
    | refine awp_seq ?_
    | refine awp_region ?_
    | refine alex_nil ?_
    | refine w0 ?_
    | (refine Y_qcall [] [] rfl rfl hb_EqualFunc (EqualFunc_ok A B hA hB) rfl ?_ rfl (by decide) rfl rfl rfl rfl; (repeat (refine SArgs_cons rfl ?_)); exact SArgs_nil)
    | apply ay (hd := rfl)
    | (apply Y_move_d; exact rfl)
    | (apply Y_assign_d; exact rfl)
    | refine awp_ret ?_
    | refine rpost_ret ?_
    | (apply res1; exact rfl)
  all_goals rfl
theorem rSame_ok (A B : List Tk) (hA : A.length ≤ 1000000) (_hB : B.length ≤ 1000000) : PCall Tryd.prog 18 [toks A, toks B] (bl (sameF A B)) := by
  refine pcall_of Tryd.func18 rfl Tryd.ntmps18 Tryd.results18 rfl ?_
  intro wb St0
  repeat' first
    | refine en_n ?_
    | refine awp_seq ?_
    | refine awp_region ?_
    | refine alex_nil ?_
    | refine w0 ?_
    | apply ay (hd := rfl)
    | (apply Y_move_d; exact rfl)
    | (apply Y_assign_d; exact rfl)
    | (apply Y_len_m; exact rfl; exact (by first | with_reducible exact et_toks | with_reducible exact et_strs | with_reducible exact et_u8s))
    | (apply Y_neq; exact rfl; exact rfl)
    | (apply awp_condD; exact rfl; (intro hb); rotate_left; (intro hb); rotate_right)
    | refine awp_block ?_
    | refine awp_skip ?_
    | refine awp_ret ?_
    | refine en_r ?_
    | refine rpost_ret ?_
    | (apply res1; exact rfl)
  · exact bl_is (same_len (by omega)).symm
  refine awp_loopF (α := Nat) (fun i => i ≤ A.length ∧ ∀ (j : Nat) x y, j < i → A[j]? = some x → B[j]? = some y → sameT x y = true) (fun i => [(0, .d (toks A)), (1, .d (toks B)), (5, .d (i64 (i : Int)))]) (fun _ => []) (fun i => A.length - i) 0 ⟨Nat.zero_le _, fun _ _ _ h => by omega⟩
      (Fits_mk (Le_cons rfl (Le_cons rfl (Le_cons rfl Le_nil))) Pre_nil rfl rfl) ?_
  rintro i ⟨hi1, hi2⟩
  repeat' first
    | refine en_n ?_
    | refine awp_seq ?_
    | refine awp_region ?_
    | refine alex_nil ?_
    | refine w0 ?_
    | (apply Y_neqs; exact rfl; exact rfl)
    | (apply aJ (hd := rfl); (first | exact Co_dd rfl | exact Co_bb rfl rfl rfl | exact Co_nn rfl); exact rfl; exact (by first | with_reducible exact es_toks | with_reducible exact es_strs | with_reducible exact es_u8s); assumption; omega; exact fun _ => rfl)
    | (apply aI (hd := rfl); (first | exact Co_dd rfl | exact Co_bb rfl rfl rfl | exact Co_nn rfl); exact rfl; exact (by first | with_reducible exact es_toks | with_reducible exact es_strs | with_reducible exact es_u8s); exact fun _ => rfl; rotate_left; intro v hv; rotate_right)
    | apply ay (hd := rfl)
    | (apply Y_move_d; exact rfl)
    | (apply Y_assign_d; exact rfl)
    | (apply Y_field_r; exact rfl; exact (by first | with_reducible exact fo_0 | with_reducible exact fo_1 | with_reducible exact fo_2 | with_reducible exact fo_3))
    | (apply Y_load_r1; exact rfl; exact (by first | with_reducible exact tc_str | with_reducible exact tc_int | with_reducible exact tc_kind | with_reducible exact tc_tok | with_reducible exact tc_u8s | with_reducible exact tc_toks | with_reducible exact tc_strs | with_reducible exact tc_bool | with_reducible exact tc_err | with_reducible exact tc_i64))
    | (apply Y_len_m; exact rfl; exact (by first | with_reducible exact et_toks | with_reducible exact et_strs | with_reducible exact et_u8s))
    | (apply Y_lss; exact rfl; exact rfl)
    | (apply Y_neq; exact rfl; exact rfl)
    | (apply Y_add; exact rfl; exact rfl)
    | (apply Y_pick_t; exact rfl; exact rfl)
    | (apply Y_pick_f; exact rfl; exact rfl)
    | (apply w1; exact rfl; exact rfl)
    | (apply k0 (hd := rfl); exact rfl; exact rfl)
    | (apply gD; exact rfl; exact rfl; (intro hb); rotate_left; (intro hb); rotate_right)
    | (apply awp_condD; exact rfl; (intro hb); rotate_left; (intro hb); rotate_right)
    | (apply awp_condT; exact rfl)
    | refine awp_block ?_
    | refine awp_skip ?_
    | refine awp_ret ?_
    | refine awp_exit ?_
    | refine awp_draw (by kernel_rfl) (by kernel_rfl) ?_
    | refine en_r ?_
    | refine en_e ?_
    | refine eb_n ?_
    | refine eb_r ?_
    | refine eb_e ?_
    | refine rpost_ret ?_
    | (apply res1; exact rfl)
  all_goals try omega
  iterate 3
    · refine bl_is (same_no (i := i) ‹A[Int.toNat (i : Int)]? = some _› ‹B[Int.toNat (i : Int)]? = some _› ?_).symm
      rw [← Bool.not_eq_true, sameT_iff]; rintro ⟨g1, g2, g3⟩; first | exact hb g1 | exact hb g2 | exact hb g3
  · have hst := sameT_iff.2 ⟨Decidable.not_not.1 ‹¬ Tk.kind _ ≠ _›, Decidable.not_not.1 ‹¬ Tk.text _ ≠ _›, Decidable.not_not.1 ‹¬ Tk.num _ ≠ _›⟩
    refine ⟨i + 1, ⟨by omega, fun j x y hj h1 h2 => ?_⟩, by omega, Fits_mk (Le_cons rfl (Le_cons rfl (Le_cons rfl Le_nil))) Pre_nil rfl rfl⟩
    rcases Nat.lt_or_ge j i with h | h
    · exact hi2 j x y h h1 h2
    · have e : j = i := by omega
      subst e
      have e1 := ‹A[Int.toNat (j : Int)]? = some _›.symm.trans h1
      have e2 := ‹B[Int.toNat (j : Int)]? = some _›.symm.trans h2
      cases e1; cases e2; exact hst
  · exact bl_is (same_yes (by omega) fun j x y h1 h2 => hi2 j x y (by have := (List.getElem?_eq_some_iff.1 h1).1; omega) h1 h2).symm
theorem own_ok (A : List Tk) (hA : A.length ≤ 1000000) : PCall Tryd.prog 16 [toks A] (toks A) := by
  refine pcall_of Tryd.func16 rfl Tryd.ntmps16 Tryd.results16 rfl ?_
  intro wb St0
  repeat' first
    | refine en_n ?_
    | refine awp_seq ?_
    | refine awp_region ?_
    | refine alex_nil ?_
    | refine w0 ?_
    | (apply aLit0 (hd := rfl) (hro := rfl); (with_reducible exact ety_toks); (with_reducible exact es_toks); (with_reducible exact zs_tok); exact rfl)
    | (apply aApp (hd := rfl) (hro := rfl); exact rfl; exact rfl; (first | exact Co_dd rfl | exact Co_bb rfl rfl rfl | exact Co_nn rfl); (first | exact rfl | (simp; done)); exact rfl; exact (by first | with_reducible exact ety_toks | with_reducible exact ety_strs | with_reducible exact ety_u8s); exact (by first | with_reducible exact es_toks | with_reducible exact es_strs | with_reducible exact es_u8s); exact (by first | with_reducible exact zl_tok | with_reducible exact zl_str | with_reducible exact zl_i64 | with_reducible exact zl_u8); exact (by first | with_reducible exact by_toks | with_reducible exact by_strs | with_reducible exact by_u8s); (first | exact sz_map (fun _ => rfl) | exact sz_lit rfl))
    | apply ay (hd := rfl)
    | (apply Y_move_d; exact rfl)
    | (apply Y_assign_nil; exact rfl)
    | (apply Y_assign_buf; exact rfl)
    | refine awp_ret ?_
    | refine rpost_ret ?_
  · rw [List.length_map]; omega
  · exact res1b rfl rfl (by simp) rfl
def fewF (A : List Tk) : Bool := decide (A.length ≤ 60) && A.all fun t => decide (t.text.length ≤ 300)
theorem few_no {A : List Tk} {i : Nat} {x : Tk} (h1 : A[i]? = some x) (h : (x.text.length : Int) > 300) : fewF A = false := by
  have : (A.all fun t => decide (t.text.length ≤ 300)) = false := by
    rw [List.all_eq_false]; exact ⟨x, List.mem_of_getElem? h1, by simp; omega⟩
  rw [fewF, this, Bool.and_false]
theorem few_yes {A : List Tk} {i : Nat} (h : ∀ (j : Nat) x, j < i → A[j]? = some x → x.text.length ≤ 300) (hi : A.length ≤ i ∨ 60 ≤ i) (hil : i ≤ A.length) : decide ((A.length : Int) ≤ 60) = fewF A := by
  by_cases h2 : A.length ≤ 60
  · have : (A.all fun t => decide (t.text.length ≤ 300)) = true := by
      rw [List.all_eq_true]; intro x hx
      obtain ⟨j, hj, rfl⟩ := List.getElem_of_mem hx
      exact decide_eq_true (h j _ (by omega) (List.getElem?_eq_getElem hj))
    rw [fewF, this, Bool.and_true, decide_eq_decide]; omega
  · rw [fewF, decide_eq_false h2, Bool.false_and, decide_eq_false_iff_not]; omega
theorem few_ok (A : List Tk) : PCall Tryd.prog 14 [toks A] (bl (fewF A)) := by
  refine pcall_of Tryd.func14 rfl Tryd.ntmps14 Tryd.results14 rfl ?_
  intro wb St0
  repeat' first
    | refine en_n ?_
    | refine awp_seq ?_
    | refine awp_region ?_
    | refine alex_nil ?_
    | refine w0 ?_
    | apply ay (hd := rfl)
    | (apply Y_assign_d; exact rfl)
    | refine awp_block ?_
  refine awp_loopF (α := Nat) (fun i => i ≤ A.length ∧ ∀ (j : Nat) x, j < i → A[j]? = some x → x.text.length ≤ 300) (fun i => [(0, .d (toks A)), (3, .d (i64 (i : Int)))]) (fun _ => []) (fun i => A.length - i) 0 ⟨Nat.zero_le _, fun _ _ h => by omega⟩
      (Fits_mk (Le_cons rfl (Le_cons rfl Le_nil)) Pre_nil rfl rfl) ?_
  rintro i ⟨hi1, hi2⟩
  repeat' first
    | refine en_n ?_
    | refine awp_seq ?_
    | refine awp_region ?_
    | refine alex_nil ?_
    | refine w0 ?_
    | (apply k1u (hd := rfl); exact rfl; exact rfl)
    | (apply Y_len_l; exact rfl; with_reducible exact ustr)
    | (apply aI (hd := rfl); (first | exact Co_dd rfl | exact Co_bb rfl rfl rfl | exact Co_nn rfl); exact rfl; exact (by first | with_reducible exact es_toks | with_reducible exact es_strs | with_reducible exact es_u8s); exact fun _ => rfl; rotate_left; intro v hv; rotate_right)
    | apply ay (hd := rfl)
    | (apply Y_move_d; exact rfl)
    | (apply Y_assign_d; exact rfl)
    | (apply Y_field_r; exact rfl; exact (by first | with_reducible exact fo_0 | with_reducible exact fo_1 | with_reducible exact fo_2 | with_reducible exact fo_3))
    | (apply Y_load_r1; exact rfl; exact (by first | with_reducible exact tc_str | with_reducible exact tc_int | with_reducible exact tc_kind | with_reducible exact tc_tok | with_reducible exact tc_u8s | with_reducible exact tc_toks | with_reducible exact tc_strs | with_reducible exact tc_bool | with_reducible exact tc_err | with_reducible exact tc_i64))
    | (apply Y_len_m; exact rfl; exact (by first | with_reducible exact et_toks | with_reducible exact et_strs | with_reducible exact et_u8s))
    | (apply Y_lss; exact rfl; exact rfl)
    | (apply Y_leq; exact rfl; exact rfl)
    | (apply Y_gtr; exact rfl; exact rfl)
    | (apply Y_add; exact rfl; exact rfl)
    | (apply Y_pick_t; exact rfl; exact rfl)
    | (apply Y_pick_f; exact rfl; exact rfl)
    | (apply w1; exact rfl; exact rfl)
    | (apply gD; exact rfl; exact rfl; (intro hb); rotate_left; (intro hb); rotate_right)
    | (apply awp_condD; exact rfl; (intro hb); rotate_left; (intro hb); rotate_right)
    | (apply awp_condF; exact rfl)
    | refine awp_block ?_
    | refine awp_skip ?_
    | refine awp_ret ?_
    | refine awp_exit ?_
    | refine en_r ?_
    | refine en_e ?_
    | refine eb_n ?_
    | refine eb_r ?_
    | refine eb_e ?_
    | refine rpost_ret ?_
    | (apply res1; exact rfl)
  all_goals try omega
  · exact bl_is (few_no (i := i) ‹A[Int.toNat (i : Int)]? = some _› hb).symm
  · refine ⟨i + 1, ⟨by omega, fun j x hj h1 => ?_⟩, by omega, Fits_mk (Le_cons rfl (Le_cons rfl Le_nil)) Pre_nil rfl rfl⟩
    rcases Nat.lt_or_ge j i with h | h
    · exact hi2 j x h h1
    · have hb2 := hb
      have e : j = i := by omega
      subst e
      have e1 := ‹A[Int.toNat (j : Int)]? = some _›.symm.trans h1
      cases e1; omega
  · exact bl_is (few_yes hi2 (by omega) hi1)
  · exact bl_is (few_yes hi2 (by omega) hi1)
/-- the same tokens, at the same places -/
theorem exact_ok (A : List Tk) (hA : A.length ≤ 1000000) : PCall Tryd.prog 13 [toks A, toks A] (bl true) := by
  refine pcall_of Tryd.func13 rfl Tryd.ntmps13 Tryd.results13 rfl ?_
  intro wb St0
  have hs : sameF A A = true := decide_eq_true rfl
  have hs2 := rSame_ok A A hA hA
  rw [hs] at hs2
  repeat' first
    | refine en_n ?_
    | refine awp_seq ?_
    | refine awp_region ?_
    | refine alex_nil ?_
    | refine w0 ?_
    | apply ay (hd := rfl)
    | (apply Y_assign_d; exact rfl)
    | refine awp_block ?_
  refine awp_loopF (α := Nat) (fun i => i ≤ A.length) (fun i => [(0, .d (toks A)), (1, .d (toks A)), (5, .d (i64 (i : Int)))]) (fun _ => []) (fun i => A.length - i) 0 (Nat.zero_le _)
      (Fits_mk (Le_cons rfl (Le_cons rfl (Le_cons rfl Le_nil))) Pre_nil rfl rfl) ?_
  intro i hi
  repeat' first
    | refine en_n ?_
    | refine awp_seq ?_
    | refine awp_region ?_
    | refine alex_nil ?_
    | refine w0 ?_
    | (apply k1u (hd := rfl); exact rfl; exact rfl)
    | (refine Y_call hb_rSame hs2 (CoL_d rfl (CoL_d rfl CoL_nil)))
    | (apply aJ (hd := rfl); (first | exact Co_dd rfl | exact Co_bb rfl rfl rfl | exact Co_nn rfl); exact rfl; exact (by first | with_reducible exact es_toks | with_reducible exact es_strs | with_reducible exact es_u8s); assumption; omega; exact fun _ => rfl)
    | (apply aI (hd := rfl); (first | exact Co_dd rfl | exact Co_bb rfl rfl rfl | exact Co_nn rfl); exact rfl; exact (by first | with_reducible exact es_toks | with_reducible exact es_strs | with_reducible exact es_u8s); exact fun _ => rfl; rotate_left; intro v hv; rotate_right)
    | apply ay (hd := rfl)
    | (apply Y_move_d; exact rfl)
    | (apply Y_assign_d; exact rfl)
    | (apply Y_field_r; exact rfl; exact (by first | with_reducible exact fo_0 | with_reducible exact fo_1 | with_reducible exact fo_2 | with_reducible exact fo_3))
    | (apply Y_load_r1; exact rfl; exact (by first | with_reducible exact tc_str | with_reducible exact tc_int | with_reducible exact tc_kind | with_reducible exact tc_tok | with_reducible exact tc_u8s | with_reducible exact tc_toks | with_reducible exact tc_strs | with_reducible exact tc_bool | with_reducible exact tc_err | with_reducible exact tc_i64))
    | (apply Y_len_m; exact rfl; exact (by first | with_reducible exact et_toks | with_reducible exact et_strs | with_reducible exact et_u8s))
    | (apply Y_lss; exact rfl; exact rfl)
    | (apply Y_neq; exact rfl; exact rfl)
    | (apply Y_add; exact rfl; exact rfl)
    | (apply Y_pick_t; exact rfl; exact rfl)
    | (apply Y_pick_f; exact rfl; exact rfl)
    | (apply w1; exact rfl; exact rfl)
    | (apply gD; exact rfl; exact rfl; (intro hb); rotate_left; (intro hb); rotate_right)
    | (apply awp_condD; exact rfl; (intro hb); rotate_left; (intro hb); rotate_right)
    | (apply awp_condF; exact rfl)
    | refine awp_block ?_
    | refine awp_skip ?_
    | refine awp_ret ?_
    | refine awp_exit ?_
    | refine awp_draw (by kernel_rfl) (by kernel_rfl) ?_
    | refine en_r ?_
    | refine en_e ?_
    | refine eb_n ?_
    | refine eb_r ?_
    | refine eb_e ?_
    | refine rpost_ret ?_
    | (apply res1; exact rfl)
  all_goals try omega
  · exact ⟨i + 1, by omega, by omega, Fits_mk (Le_cons rfl (Le_cons rfl (Le_cons rfl Le_nil))) Pre_nil rfl rfl⟩
  · rfl

/-! ### tokens as a text -/
def showO (L : List Tk) : Bool := L.all rightF
def showS (L : List Tk) : List UInt8 := if showO L then Lib.join (L.map wordF) [32] else []
def showE (L : List Tk) : Int := if showO L then 0 else 34
theorem word_len (t : Tk) (h : t.text.length ≤ 1000) : (wordF t).length ≤ 4100 := by
  unfold wordF
  split
  · split
    · have := shw_len (W t.num) (by have := W_bd t.num; omega); omega
    split
    · have := flat_len t.text; simp only [quoteF, List.length_cons, List.length_append, List.length_nil]; omega
    · omega
  · simp
theorem join_snoc (L : List (List UInt8)) (x sep : List UInt8) (h : L ≠ []) : Lib.join (L ++ [x]) sep = Lib.join L sep ++ (sep ++ x) := by
  cases L with
  | nil => exact absurd rfl h
  | cons y L => rw [List.cons_append, Lib.join_cons, Lib.join_cons, Lib.joinTail, Lib.joinTail]; simp
theorem join_len : ∀ (L : List Tk), (∀ t ∈ L, t.text.length ≤ 1000) → (Lib.join (L.map wordF) [32]).length ≤ L.length * 4101
  | [], _ => by simp [Lib.join, List.intercalate]
  | t :: L, h => by
    rw [List.map_cons, Lib.join_cons]
    have h0 := word_len t (h t (by simp))
    have ih : ∀ (M : List Tk), (∀ t ∈ M, t.text.length ≤ 1000) → (Lib.joinTail [32] (M.map wordF)).length ≤ M.length * 4101 := by
      intro M hM
      induction M with
      | nil => simp [Lib.joinTail]
      | cons u M ih =>
        have h1 := word_len u (hM u (by simp))
        have h2 := ih fun t ht => hM t (by simp [ht])
        simp only [Lib.joinTail, List.map_cons, List.flatten_cons, List.length_append, List.length_cons, List.length_nil] at h2 ⊢
        omega
    have := ih L fun t ht => h t (by simp [ht])
    rw [List.length_append, List.length_cons]; omega
theorem right_no {L : List Tk} {i : Nat} {t : Tk} (h : L[i]? = some t) (hr : rightF t = false) : showO L = false := by
  rw [showO, List.all_eq_false]; exact ⟨t, List.mem_of_getElem? h, by rw [hr]; decide⟩
theorem right_yes {L : List Tk} (h : ∀ (j : Nat) t, L[j]? = some t → rightF t = true) : showO L = true := by
  rw [showO, List.all_eq_true]; intro t ht
  obtain ⟨j, hj, rfl⟩ := List.getElem_of_mem ht
  exact h j _ (List.getElem?_eq_getElem hj)
end Go.Proofs.YtbgomheagkcmaaaDoor
/- The token statements: tokens as a text. -/
namespace Go.Proofs.YtbgomheagkcmaaaDoor
open Go.Sx Go.RowKit Go.Lib
section
variable {C : Ctx} {ops : Array Oper} {rest : List Oper} {K : Sl → List Ob → Prop} {σ : Sl} {η : List Ob} {d : Nat} {ty : TypeId} {pos : String} {after : Array Edge} {gd : Option (Nat × Bool)} {t : TypeId} {x y : Operand}
/-- a text more -/
theorem aAppL {id n e by' : Nat} {mu : Bool} {L : List (List UInt8)} (c : List UInt8) (hx : oval σ x = .buf id n) (ho : η[id]? = some (.buf mu e 1 (L.map str))) (hy : oval σ y = .d (.slice [str c])) (hn : n = L.length)
    (he : elemTy C.P t = some e) (hs : elemSize C.P t = some 1) (hz : zeroLen C.P e = some 1) (hb : bytesOf C.P t = some by') (hby : by' = 16) (hd : Nat.blt d C.N = true) (hro : Nat.ble C.ro id = true) (hlen : L.length ≤ 1000000000)
    (h : alex C false ops rest K ((d, .buf id (L ++ [c]).length) :: killσ id σ) ((killη id η).set id (.buf mu e 1 ((L ++ [c]).map str)))) :
    astep C false ops ⟨some d, .call ⟨.builtin .append, #[x, y], #[t, t]⟩, ty, pos, after, gd⟩ rest K σ η := by
  subst hn; subst hby
  refine aApp (id := id) (n := L.length) (mu := mu) (m := 1) (xs := L.map str) (ys := [str c]) hx ho (Co_dd hy) (by simp) rfl he hs hz hb hd hro (fun d hd => by simp at hd; subst hd; rfl) (by omega) ?_
  rw [show L.length + 1 = (L ++ [c]).length by simp, show L.map str ++ [str c] = (L ++ [c]).map str by simp]; exact h
end
theorem CoL_bs {η : List Ob} {σ : Sl} {x : Operand} {xs : List Operand} {L : List (List UInt8)} {ds : List D} {id n e sz : Nat} (h : oval σ x = .buf id n) (ho : η[id]? = some (.buf false e sz (L.map str))) (hn : n = L.length) (r : CoL η σ xs ds) : CoL η σ (x :: xs) (strs L :: ds) := CoL_b h ho (by simpa using hn) r
theorem take_w {L : List Tk} {i : Nat} {t : Tk} (h : L[i]? = some t) : (L.take i).map wordF ++ [wordF t] = (L.take (i + 1)).map wordF := by
  rw [List.take_add_one, h]; simp
/-- what the document's Show has put out -/
def rsh (L : List Tk) (i : Nat) : List UInt8 := Lib.join ((L.take i).map wordF) [32]
theorem rsh_step {L : List Tk} {i : Nat} {t : Tk} (h : L[i]? = some t) : rsh L (i + 1) = if i = 0 then rsh L i ++ wordF t else rsh L i ++ [32] ++ wordF t := by
  rw [rsh, rsh, ← take_w h]
  split
  · rename_i h0; subst h0; rw [List.take_zero, List.map_nil, List.nil_append, Lib.join_one]; rfl
  · rename_i h0
    rw [join_snoc _ _ _ ?_]
    · simp
    · have := (List.getElem?_eq_some_iff.1 h).1
      intro e
      have := congrArg List.length e
      simp at this; rcases this with h | h
      · omega
      · subst h; simp at *
theorem rsh_len {L : List Tk} (h : ∀ t ∈ L, t.text.length ≤ 1000) (hL : L.length ≤ 10000) (i : Nat) : (rsh L i).length ≤ 41010000 := by
  have := join_len (L.take i) fun t ht => h t (List.mem_of_mem_take ht)
  have h2 : (L.take i).length ≤ L.length := by rw [List.length_take]; omega
  rw [rsh]
  have : (L.take i).length * 4101 ≤ L.length * 4101 := Nat.mul_le_mul_right _ h2
  omega
attribute [local irreducible] hasBody Program.underlying Ylds astep alex alexE alexD awp PCall FCall RCall MCall QCall athen ablock ajump rpost fpost mpost rpostC

theorem Show_ok (L : List Tk) (hL : L.length ≤ 10000) (ht : ∀ t ∈ L, t.text.length ≤ 1000) : PCall Tryd.prog 15 [toks L] (.tup [str (showS L), i64 (showE L)]) := by
  refine pcall_of Tryd.func15 rfl Tryd.ntmps15 Tryd.results15 rfl ?_
  intro wb St0
  have hj := join_len L ht
  repeat' first
    | (refine awp_newbuf 4 false 9 1 rfl rfl ?_)
    | refine en_n ?_
    | refine awp_seq ?_
    | refine awp_region ?_
    | refine alex_nil ?_
    | refine w0 ?_
    | apply ay (hd := rfl)
    | (apply Y_move_d; exact rfl)
    | (apply Y_assign_d; exact rfl)
    | (apply Y_len_m; exact rfl; exact (by first | with_reducible exact et_toks | with_reducible exact et_strs | with_reducible exact et_u8s))
    | (apply Y_assign_nil; exact rfl)
    | refine awp_block ?_
  refine awp_loopF (α := Nat) (fun i => i ≤ L.length ∧ ∀ (j : Nat) t, j < i → L[j]? = some t → rightF t = true) (fun i => [(0, .d (toks L)), (4, .buf 0 ((L.take i).map wordF).length), (7, .d (toks L)), (8, .d (i64 (L.length : Int))), (9, .d (i64 (i : Int)))]) (fun i => [.buf false 9 1 (((L.take i).map wordF).map str)]) (fun i => L.length - i) 0 ⟨Nat.zero_le _, fun _ _ h => by omega⟩
      (Fits_mk (Le_cons rfl (Le_cons rfl (Le_cons rfl (Le_cons rfl (Le_cons rfl Le_nil))))) (Pre_cons rfl rfl Pre_nil) rfl rfl) ?_
  rintro i ⟨hi1, hi2⟩
  have hl : ((L.take i).map wordF).length = i := by rw [List.length_map, List.length_take]; omega
  generalize hM : (L.take i).map wordF = M at hl ⊢
  repeat' first
    | refine en_n ?_
    | refine awp_seq ?_
    | refine awp_region ?_
    | refine alex_nil ?_
    | refine w0 ?_
    | (refine Y_call hb_Right (Right_ok _) (CoL_d rfl CoL_nil))
    | (refine Y_call hb_Word (Word_ok _) (CoL_d rfl CoL_nil))
    | (apply aAppL _ (hd := rfl) (hro := rfl); exact rfl; exact rfl; exact rfl; exact rfl; (with_reducible exact ety_strs); (with_reducible exact es_strs); (with_reducible exact zl_str); (with_reducible exact by_strs); exact rfl; omega)
    | (refine Y_call hb_Join (Join_ok M [32] (by omega) (by rw [← hM, List.take_of_length_le (by omega)]; omega)) (CoL_bs rfl rfl rfl (CoL_d rfl CoL_nil)))
    | (apply aI (hd := rfl); (first | exact Co_dd rfl | exact Co_bb rfl rfl rfl | exact Co_nn rfl); exact rfl; exact (by first | with_reducible exact es_toks | with_reducible exact es_strs | with_reducible exact es_u8s); exact fun _ => rfl; rotate_left; intro v hv; rotate_right)
    | (apply aAlloc (hd := rfl) (hro := rfl); exact (by first | with_reducible exact zo_tok | with_reducible exact zo_int | with_reducible exact zo_i64))
    | apply ay (hd := rfl)
    | (apply Y_move_d; exact rfl)
    | (apply Y_assign_d; exact rfl)
    | (apply Y_load_r; exact rfl; exact (by first | with_reducible exact tc_str | with_reducible exact tc_int | with_reducible exact tc_kind | with_reducible exact tc_tok | with_reducible exact tc_u8s | with_reducible exact tc_toks | with_reducible exact tc_strs | with_reducible exact tc_bool | with_reducible exact tc_err | with_reducible exact tc_i64); exact rfl)
    | (apply Y_lss; exact rfl; exact rfl)
    | (apply Y_add; exact rfl; exact rfl)
    | (apply Y_not; exact rfl)
    | (apply Y_move_buf; exact rfl)
    | (apply Y_assign_buf; exact rfl)
    | (apply Y_load_pa; exact rfl; exact (by first | with_reducible exact tc_str | with_reducible exact tc_int | with_reducible exact tc_kind | with_reducible exact tc_tok | with_reducible exact tc_u8s | with_reducible exact tc_toks | with_reducible exact tc_strs | with_reducible exact tc_bool | with_reducible exact tc_err | with_reducible exact tc_i64); exact rfl; exact rfl; exact rfl)
    | (apply Y_lit1; exact (by first | with_reducible exact ety_toks | with_reducible exact ety_strs | with_reducible exact ety_u8s); exact (by first | with_reducible exact es_toks | with_reducible exact es_strs | with_reducible exact es_u8s); exact (by first | with_reducible exact zs_tok | with_reducible exact zs_str | with_reducible exact zs_i64 | with_reducible exact zs_u8); exact rfl; exact rfl; (first | exact CoL_d rfl CoL_nil | exact CoL_b rfl rfl rfl CoL_nil | exact CoL_n rfl CoL_nil); exact rfl)
    | (refine w0' ?_)
    | (apply aStore; exact rfl; exact rfl; exact rfl; exact (by first | with_reducible exact tc_str | with_reducible exact tc_int | with_reducible exact tc_kind | with_reducible exact tc_tok | with_reducible exact tc_u8s | with_reducible exact tc_toks | with_reducible exact tc_strs | with_reducible exact tc_bool | with_reducible exact tc_err | with_reducible exact tc_i64); exact rfl; exact rfl; exact rfl; exact rfl)
    | (apply awp_condD; exact rfl; (intro hb); rotate_left; (intro hb); rotate_right)
    | (apply awp_cond; exact rfl; (intro hb); rotate_left; (intro hb); rotate_right)
    | refine awp_block ?_
    | refine awp_skip ?_
    | refine awp_ret ?_
    | refine awp_exit ?_
    | refine en_r ?_
    | refine en_e ?_
    | refine eb_n ?_
    | refine eb_r ?_
    | refine eb_e ?_
    | refine rpost_ret ?_
    | (apply res2; exact rfl; exact rfl)
  all_goals try omega
  · exact str_eq (by rw [showS, right_no ‹L[Int.toNat (i : Int)]? = some _› (by simpa using hb)]; rfl)
  · exact i64_is (by rw [showE, right_no ‹L[Int.toNat (i : Int)]? = some _› (by simpa using hb)]; rfl)
  · refine ⟨i + 1, ⟨by omega, fun j t hj h1 => ?_⟩, by omega, ?_⟩
    · rcases Nat.lt_or_ge j i with h | h
      · exact hi2 j t h h1
      · have hb2 := hb
        have e : j = i := by omega
        subst e
        have e1 := ‹L[Int.toNat (j : Int)]? = some _›.symm.trans h1
        cases e1; simpa using hb2
    · rw [← take_w (i := i) ‹L[Int.toNat (i : Int)]? = some _›, hM]
      exact Fits_mk (Le_cons rfl (Le_cons rfl (Le_cons rfl (Le_cons rfl (Le_cons rfl Le_nil))))) (Pre_cons rfl rfl Pre_nil) rfl rfl
  · have hr := right_yes fun j t h1 => hi2 j t (by have := (List.getElem?_eq_some_iff.1 h1).1; omega) h1
    exact str_eq (by rw [showS, hr, if_pos rfl, ← hM, List.take_of_length_le (by omega)])
  · have hr := right_yes fun j t h1 => hi2 j t (by have := (List.getElem?_eq_some_iff.1 h1).1; omega) h1
    exact i64_is (by rw [showE, hr]; rfl)
theorem rShow3_ok (L : List Tk) (hL : L.length ≤ 10000) (ht : ∀ t ∈ L, t.text.length ≤ 1000) : PCall Tryd.prog 17 [toks L] (.tup [str (showS L), bl (showO L)]) := by
  refine pcall_of Tryd.func17 rfl Tryd.ntmps17 Tryd.results17 rfl ?_
  intro wb St0
  repeat' first
    | refine en_n ?_
    | refine awp_seq ?_
    | refine awp_region ?_
    | refine alex_nil ?_
    | refine w0 ?_
    | apply ay (hd := rfl)
    | (apply Y_assign_d; exact rfl)
    | refine awp_block ?_
  refine awp_loopF (α := Nat) (fun i => i ≤ L.length ∧ ∀ (j : Nat) t, j < i → L[j]? = some t → rightF t = true) (fun i => [(0, .d (toks L)), (4, .d (str (rsh L i))), (5, .d (i64 (i : Int)))]) (fun _ => []) (fun i => L.length - i) 0 ⟨Nat.zero_le _, fun _ _ h => by omega⟩
      (Fits_mk (Le_cons rfl (Le_cons rfl (Le_cons rfl Le_nil))) Pre_nil rfl rfl) ?_
  rintro i ⟨hi1, hi2⟩
  have hl := rsh_len ht hL i
  generalize hM : rsh L i = M at hl ⊢
  have hw : ∀ (j : Nat) t, L[j]? = some t → t.text.length ≤ 1000000 ∧ (wordF t).length ≤ 4100 := fun j t h => by
    have h1 := ht t (List.mem_of_getElem? h); exact ⟨by omega, word_len t h1⟩
  repeat' first
    | refine en_n ?_
    | refine awp_seq ?_
    | refine awp_region ?_
    | refine alex_nil ?_
    | refine w0 ?_
    | (apply Y_cat_l; exact rfl; exact rfl; (try simp only [List.length_append, List.length_cons, List.length_nil]); first | omega | (have := (hw _ _ ‹_›).2; omega))
    | (refine Y_call hb_rRight3 (rRight_ok _ (hw _ _ ‹_›).1) (CoL_d rfl CoL_nil))
    | (refine Y_call hb_rWord (rWord_ok _ (hw _ _ ‹_›).1) (CoL_d rfl CoL_nil))
    | (apply aJ (hd := rfl); (first | exact Co_dd rfl | exact Co_bb rfl rfl rfl | exact Co_nn rfl); exact rfl; exact (by first | with_reducible exact es_toks | with_reducible exact es_strs | with_reducible exact es_u8s); assumption; omega; exact fun _ => rfl)
    | (apply aI (hd := rfl); (first | exact Co_dd rfl | exact Co_bb rfl rfl rfl | exact Co_nn rfl); exact rfl; exact (by first | with_reducible exact es_toks | with_reducible exact es_strs | with_reducible exact es_u8s); exact fun _ => rfl; rotate_left; intro v hv; rotate_right)
    | apply ay (hd := rfl)
    | (apply Y_move_d; exact rfl)
    | (apply Y_assign_d; exact rfl)
    | (apply Y_load_r; exact rfl; exact (by first | with_reducible exact tc_str | with_reducible exact tc_int | with_reducible exact tc_kind | with_reducible exact tc_tok | with_reducible exact tc_u8s | with_reducible exact tc_toks | with_reducible exact tc_strs | with_reducible exact tc_bool | with_reducible exact tc_err | with_reducible exact tc_i64); exact rfl)
    | (apply Y_len_m; exact rfl; exact (by first | with_reducible exact et_toks | with_reducible exact et_strs | with_reducible exact et_u8s))
    | (apply Y_lss; exact rfl; exact rfl)
    | (apply Y_gtr; exact rfl; exact rfl)
    | (apply Y_add; exact rfl; exact rfl)
    | (apply Y_not; exact rfl)
    | (apply awp_condD; exact rfl; (intro hb); rotate_left; (intro hb); rotate_right)
    | (apply awp_cond; exact rfl; (intro hb); rotate_left; (intro hb); rotate_right)
    | refine awp_block ?_
    | refine awp_skip ?_
    | refine awp_ret ?_
    | refine awp_exit ?_
    | refine en_r ?_
    | refine en_e ?_
    | refine eb_n ?_
    | refine eb_r ?_
    | refine eb_e ?_
    | refine rpost_ret ?_
    | (apply res2; exact rfl; exact rfl)
  all_goals try omega
  · exact str_eq (by rw [showS, right_no ‹L[Int.toNat (i : Int)]? = some _› (by simpa using hb)]; rfl)
  · exact bl_is (right_no ‹L[Int.toNat (i : Int)]? = some _› (by simpa using hb)).symm
  iterate 2
    · refine ⟨i + 1, ⟨by omega, fun j t hj h1 => ?_⟩, by omega, ?_⟩
      · rcases Nat.lt_or_ge j i with h | h
        · exact hi2 j t h h1
        · have hb2 := ‹(!rightF _) = false›
          have e : j = i := by omega
          subst e
          have e1 := ‹L[Int.toNat (j : Int)]? = some _›.symm.trans h1
          cases e1; simpa using hb2
      · have e := rsh_step (i := i) ‹L[Int.toNat (i : Int)]? = some _›
        rw [hM] at e
        first
          | (rw [if_neg (by omega)] at e; rw [e]; exact Fits_mk (Le_cons rfl (Le_cons rfl (Le_cons rfl Le_nil))) Pre_nil rfl rfl)
          | (rw [if_pos (by omega)] at e; rw [e]; exact Fits_mk (Le_cons rfl (Le_cons rfl (Le_cons rfl Le_nil))) Pre_nil rfl rfl)
  · have hr := right_yes fun j t h1 => hi2 j t (by have := (List.getElem?_eq_some_iff.1 h1).1; omega) h1
    exact str_eq (by rw [showS, hr, if_pos rfl, ← hM, rsh, List.take_of_length_le (by omega)])
  · exact bl_is (right_yes fun j t h1 => hi2 j t (by have := (List.getElem?_eq_some_iff.1 h1).1; omega) h1).symm
end Go.Proofs.YtbgomheagkcmaaaDoor
/- The token statements: the chapter's example holds. -/
namespace Go.Proofs.YtbgomheagkcmaaaDoor
open Go.Sx Go.RowKit Go.Lib

theorem head_ok {c : UInt8} {r : List UInt8} (he : (oneF (c :: r)).2.2 = 0) : ¬ (c = 32 ∨ c = 10) ∧ c ≠ 35 := by
  have no : ∀ d : UInt8, (d = 32 ∨ d = 10 ∨ d = 35) → (oneF (d :: r)).2.2 ≠ 0 := by
    rintro d hd
    have F : isK d ≠ 1 ∧ isK d ≠ 2 ∧ isK d ≠ 5 ∧ isK d ≠ 3 ∧ d ≠ 126 ∧ d ≠ 34 ∧ ¬ (d = 40 ∨ d = 41 ∨ d = 95) ∧ d ≠ 59 := by rcases hd with rfl | rfl | rfl <;> decide
    obtain ⟨f1, f2, f3, f4, f5, f6, f7, f8⟩ := F
    rw [o_0 (s := d :: r) f1 f2 f3 f4 f5 f6 f7 (pre_not (s := d :: r) f8)]
    decide
  refine ⟨fun h => no c (h.imp id .inl) he, fun h => no c (.inr (.inr h)) he⟩
theorem lx_step {s : List UInt8} {a n : Nat} {acc : List Tk} {t : Tk} (h : s ≠ []) (h1 : oneF s = (t, (n : Int), 0)) (hacc : acc.length < 4000) : lexS s a acc = lexS (s.drop n) (a + n) (acc ++ [at_ t a]) := by
  cases s with
  | nil => exact absurd rfl h
  | cons c r =>
    obtain ⟨g1, g2⟩ := head_ok (c := c) (r := r) (by rw [h1])
    rw [lexS_cons, if_neg g1, if_neg g2, h1, if_neg (fun h => h rfl), if_neg (by omega)]
    rfl
theorem lx_sp (r : List UInt8) (a : Nat) (acc : List Tk) : lexS (32 :: r) a acc = lexS r (a + 1) acc := by rw [lexS_cons, if_pos (.inl rfl)]

theorem n1 : rdOk [126, 49] = true ∧ rdN [126, 49] = -1 := by
  have e : shw (-1) = [126, 49] := by rw [shw, if_pos (by decide), show (-1 : Int).natAbs = 1 from rfl, Lib.decDigits_one (by decide)]; rfl
  have := rd_shw (-1) (by decide)
  rw [e] at this
  exact ⟨this.1, by rw [rdN, if_pos this.1]; exact this.2⟩
def awk : List UInt8 := [102, 117, 110, 32, 120, 45, 62, 120, 43, 126, 49]
def awS : List UInt8 := [102, 117, 110, 32, 120, 32, 45, 62, 32, 120, 32, 43, 32, 126, 49]
def awL : List Tk := [⟨6, [102, 117, 110], 0, 0⟩, ⟨1, [120], 0, 4⟩, ⟨6, [45, 62], 0, 5⟩, ⟨1, [120], 0, 7⟩, ⟨5, [43], 0, 8⟩, ⟨3, [], -1, 9⟩]
theorem aw6 : oneF [126, 49] = (⟨3, [], -1, 0⟩, 2, 0) := by
  have h := o_3 (s := [126, 49]) (.inr rfl)
  have e : 1 + spanF isDigit (([126, 49] : List UInt8).drop 1) = 2 := by decide
  rw [e] at h
  rw [h, show ([126, 49] : List UInt8).take 2 = [126, 49] from rfl, n1.1, n1.2]; rfl
theorem aw_lex : lexF awk = (awL, 0, 0) := by
  rw [lexF, awk, lx_step (t := ⟨6, [102, 117, 110], 0, 0⟩) (n := 3) (by decide) (by decide +kernel) (by decide)]
  rw [show ([102, 117, 110, 32, 120, 45, 62, 120, 43, 126, 49] : List UInt8).drop 3 = 32 :: [120, 45, 62, 120, 43, 126, 49] from rfl, lx_sp]
  rw [lx_step (t := ⟨1, [120], 0, 0⟩) (n := 1) (by decide) (by decide +kernel) (by decide)]
  rw [show ([120, 45, 62, 120, 43, 126, 49] : List UInt8).drop 1 = [45, 62, 120, 43, 126, 49] from rfl]
  rw [lx_step (t := ⟨6, [45, 62], 0, 0⟩) (n := 2) (by decide) (by decide +kernel) (by decide)]
  rw [show ([45, 62, 120, 43, 126, 49] : List UInt8).drop 2 = [120, 43, 126, 49] from rfl]
  rw [lx_step (t := ⟨1, [120], 0, 0⟩) (n := 1) (by decide) (by decide +kernel) (by decide)]
  rw [show ([120, 43, 126, 49] : List UInt8).drop 1 = [43, 126, 49] from rfl]
  rw [lx_step (t := ⟨5, [43], 0, 0⟩) (n := 1) (by decide) (by decide +kernel) (by decide)]
  rw [show ([43, 126, 49] : List UInt8).drop 1 = [126, 49] from rfl]
  rw [lx_step (t := ⟨3, [], -1, 0⟩) (n := 2) (by decide) aw6 (by decide)]
  rfl
theorem aw_word : wordF ⟨3, [], -1, 9⟩ = [126, 49] := by
  have e : shw (-1) = [126, 49] := by rw [shw, if_pos (by decide), show (-1 : Int).natAbs = 1 from rfl, Lib.decDigits_one (by decide)]; rfl
  rw [wordF, if_pos (by decide), if_pos rfl, show W (-1) = -1 by decide, e]
theorem aw_right : showO awL = true := by decide +kernel
theorem aw_show : showS awL = awS := by
  rw [showS, aw_right, if_pos rfl, awL]
  simp only [List.map_cons, List.map_nil]
  rw [aw_word, show wordF ⟨6, [102, 117, 110], 0, 0⟩ = [102, 117, 110] by decide +kernel, show wordF ⟨1, [120], 0, 4⟩ = [120] by decide +kernel, show wordF ⟨6, [45, 62], 0, 5⟩ = [45, 62] by decide +kernel, show wordF ⟨1, [120], 0, 7⟩ = [120] by decide +kernel, show wordF ⟨5, [43], 0, 8⟩ = [43] by decide +kernel]
  decide
theorem aw_showE : showE awL = 0 := by rw [showE, aw_right]; rfl
theorem aw_same : sameF awL awL = true := decide_eq_true rfl
theorem aw_r1 : rightF ⟨1, [120], 0, 4⟩ = true := by decide +kernel
theorem aw_q : quoteF [97, 10] = [34, 97, 92, 110, 34] := by decide
theorem aw_k1 : isKey [45, 62] = true := by decide
theorem aw_k2 : isKey [120] = false := by decide
attribute [local irreducible] hasBody Program.underlying Ylds astep alex alexE alexD awp PCall FCall RCall MCall QCall athen ablock ajump rpost fpost mpost rpostC

set_option maxHeartbeats 4000000 in
theorem awake_ok : PCall Tryd.prog 10 [] (bl true) := by
  have h1 := Lex_ok awk (by decide)
  rw [aw_lex] at h1
  have h2 := Show_ok awL (by decide) (by decide)
  rw [aw_show, aw_showE] at h2
  have h3 := Key_ok [45, 62]
  rw [aw_k1] at h3
  have h4 := Key_ok [120]
  rw [aw_k2] at h4
  have h5 := Right_ok ⟨1, [120], 0, 4⟩
  rw [aw_r1] at h5
  have h6 := Word_ok ⟨3, [], -1, 9⟩
  rw [aw_word] at h6
  have h7 := Quote_ok [97, 10] (by decide)
  rw [aw_q] at h7
  have h8 := Same_ok awL awL (by decide) (by decide)
  rw [aw_same] at h8
  refine pcall_of Tryd.func10 rfl Tryd.ntmps10 Tryd.results10 rfl ?_
  intro wb St0
  repeat' first
    | (apply aJ (L := awL) (enc := Tk.av) (hd := rfl); exact Co_dd rfl; exact rfl; (with_reducible exact es_toks); exact rfl; decide; exact fun _ => rfl)
    | refine en_n ?_
    | refine awp_seq ?_
    | refine awp_region ?_
    | refine alex_nil ?_
    | refine w0 ?_
    | (apply Y_strT; exact rfl; exact rfl; exact rfl)
    | (apply Y_eqlT; exact rfl; exact rfl; exact rfl)
    | (refine Y_b2sc (l := [34, 97, 92, 110, 34]) (Co_dd rfl) uu8s uu8 ustr)
    | (refine Y_lit (sz := 1) (ds := bys [34, 97, 92, 110, 34]) (xs := [.const (.int .u8 34), .const (.int .u8 97), .const (.int .u8 92), .const (.int .u8 110), .const (.int .u8 34)]) ety_u8s es_u8s zs_u8 rfl (by decide) rfl rfl (CoL_d rfl (CoL_d rfl (CoL_d rfl (CoL_d rfl (CoL_d rfl CoL_nil))))) (by decide) rfl)
    | (refine Y_call hb_Lex h1 (CoL_d rfl CoL_nil))
    | (refine Y_call hb_Show h2 (CoL_d rfl CoL_nil))
    | (refine Y_call hb_Key h3 (CoL_d rfl CoL_nil))
    | (refine Y_call hb_Key h4 (CoL_d rfl CoL_nil))
    | (refine Y_call hb_Right h5 (CoL_d rfl CoL_nil))
    | (refine Y_call hb_Word h6 (CoL_d rfl CoL_nil))
    | (refine Y_call hb_Quote h7 (CoL_d rfl CoL_nil))
    | (refine Y_call hb_Same h8 (CoL_d rfl (CoL_d rfl CoL_nil)))
    | apply ay (hd := rfl)
    | (apply Y_move_d; exact rfl)
    | (apply Y_assign_d; exact rfl)
    | (apply Y_field_r; exact rfl; exact (by first | with_reducible exact fo_0 | with_reducible exact fo_1 | with_reducible exact fo_2 | with_reducible exact fo_3))
    | (apply Y_load_r1; exact rfl; exact (by first | with_reducible exact tc_str | with_reducible exact tc_int | with_reducible exact tc_kind | with_reducible exact tc_tok | with_reducible exact tc_u8s | with_reducible exact tc_toks | with_reducible exact tc_strs | with_reducible exact tc_bool | with_reducible exact tc_err | with_reducible exact tc_i64))
    | (apply Y_load_r; exact rfl; exact (by first | with_reducible exact tc_str | with_reducible exact tc_int | with_reducible exact tc_kind | with_reducible exact tc_tok | with_reducible exact tc_u8s | with_reducible exact tc_toks | with_reducible exact tc_strs | with_reducible exact tc_bool | with_reducible exact tc_err | with_reducible exact tc_i64); exact rfl)
    | (apply Y_len_m; exact rfl; exact (by first | with_reducible exact et_toks | with_reducible exact et_strs | with_reducible exact et_u8s))
    | (apply Y_not; exact rfl)
    | (apply Y_pick_t; exact rfl; exact rfl)
    | (apply Y_extract; exact rfl; exact rfl)
    | (apply w1; exact rfl; exact rfl)
    | refine awp_ret ?_
    | refine awp_draw (by kernel_rfl) (by kernel_rfl) ?_
    | refine rpost_ret ?_
    | (apply res1; exact rfl)
  all_goals rfl
end Go.Proofs.YtbgomheagkcmaaaDoor
/- The token statements: the walks of the statements that only compare. -/
namespace Go.Proofs.YtbgomheagkcmaaaDoor
open Go.Sx Go.RowKit Go.Lib

theorem lexG_len : ∀ (n : Nat) (s : List UInt8) (a : Nat) (acc : List Tk), (lexG n s a acc).1.length ≤ acc.length + n
  | 0, _, _, _ => Nat.le_refl _
  | n + 1, [], _, acc => by rw [lexG]; show acc.length ≤ _; omega
  | n + 1, c :: r, a, acc => by
    rw [lexG]
    split
    · have := lexG_len n r (a + 1) acc; omega
    split
    · have := lexG_len n ((c :: r).drop (spanF isBound (c :: r))) (a + spanF isBound (c :: r)) acc; omega
    split
    · simp
    split
    · simp
    · have := lexG_len n ((c :: r).drop (oneF (c :: r)).2.1.toNat) (a + (oneF (c :: r)).2.1.toNat) (acc ++ [at_ (oneF (c :: r)).1 a])
      rw [List.length_append, List.length_singleton] at this; omega
theorem lexF_len (s : List UInt8) : (lexF s).1.length ≤ s.length := by have := lexG_len s.length s 0 []; show (lexG s.length s 0 []).1.length ≤ _; simpa using this
theorem few_spec {L : List Tk} (h : fewF L = true) : L.length ≤ 60 ∧ ∀ t ∈ L, t.text.length ≤ 300 := by
  simp only [fewF, Bool.and_eq_true, decide_eq_true_eq, List.all_eq_true] at h
  exact h
attribute [local irreducible] hasBody Program.underlying Ylds astep alex alexE alexD awp PCall FCall RCall MCall QCall athen ablock ajump rpost fpost mpost rpostC

set_option maxHeartbeats 4000000 in
theorem Reads_ok (s : List UInt8) : PCall Tryd.prog 3 [str s] (bl true) := by
  have hl := lexF_len s
  refine pcall_of Tryd.func3 rfl Tryd.ntmps3 Tryd.results3 rfl ?_
  intro wb St0
  repeat' first
    | refine en_n ?_
    | refine awp_seq ?_
    | refine awp_region ?_
    | refine alex_nil ?_
    | refine w0 ?_
    | (apply k1u (hd := rfl); exact rfl; exact rfl)
    | (apply Y_len_l; exact rfl; with_reducible exact ustr)
    | (refine Y_call hb_awake awake_ok CoL_nil)
    | (refine Y_call hb_Lex (Lex_ok s (by omega)) (CoL_d rfl CoL_nil))
    | (refine Y_call hb_rLex (rLex_ok s (by omega)) (CoL_d rfl CoL_nil))
    | (refine Y_call hb_exact (exact_ok (lexF s).1 (by omega)) (CoL_d rfl (CoL_d rfl CoL_nil)))
    | apply ay (hd := rfl)
    | (apply Y_move_d; exact rfl)
    | (apply Y_assign_d; exact rfl)
    | (apply Y_gtr; exact rfl; exact rfl)
    | (apply Y_eql; exact rfl; exact rfl)
    | (apply Y_not; exact rfl)
    | (apply Y_pick_t; exact rfl; exact rfl)
    | (apply Y_pick_f; exact rfl; exact rfl)
    | (apply Y_extract; exact rfl; exact rfl)
    | (apply w1; exact rfl; exact rfl)
    | (apply gD; exact rfl; exact rfl; (intro hb); rotate_left; (intro hb); rotate_right)
    | (apply awp_condD; exact rfl; (intro hb); rotate_left; (intro hb); rotate_right)
    | refine awp_skip ?_
    | refine awp_ret ?_
    | refine en_r ?_
    | refine rpost_ret ?_
    | (apply res1; exact rfl)
  all_goals first | rfl | exact absurd rfl hb | (exact bl_is (decide_eq_true rfl))
set_option maxHeartbeats 4000000 in
theorem Tells_ok (t : Tk) (s : List UInt8) : PCall Tryd.prog 5 [t.av, str s] (bl true) := by
  refine pcall_of Tryd.func5 rfl Tryd.ntmps5 Tryd.results5 rfl ?_
  intro wb St0
  repeat' first
    | refine en_n ?_
    | refine awp_seq ?_
    | refine awp_region ?_
    | refine alex_nil ?_
    | refine w0 ?_
    | (apply k0u (hd := rfl); exact rfl; exact rfl)
    | (apply Y_len_l; exact rfl; with_reducible exact ustr)
    | (apply Y_eqs; exact rfl; exact rfl)
    | (apply Y_eqlb; exact rfl; exact rfl; with_reducible exact ubool)
    | (refine Y_call hb_awake awake_ok CoL_nil)
    | (refine Y_call hb_Right (Right_ok t) (CoL_d rfl CoL_nil))
    | (refine Y_call hb_rRight3 (rRight_ok t (by omega)) (CoL_d rfl CoL_nil))
    | (refine Y_call hb_Word (Word_ok t) (CoL_d rfl CoL_nil))
    | (refine Y_call hb_rWord (rWord_ok t (by omega)) (CoL_d rfl CoL_nil))
    | (refine Y_call hb_Key (Key_ok s) (CoL_d rfl CoL_nil))
    | (refine Y_call hb_rKey (rKey_ok s) (CoL_d rfl CoL_nil))
    | (refine Y_call hb_Quote (Quote_ok s (by omega)) (CoL_d rfl CoL_nil))
    | (refine Y_call hb_rQuote (rQuote_ok s (by omega)) (CoL_d rfl CoL_nil))
    | (apply aBox (hd := rfl) (hro := rfl); exact rfl; exact rfl)
    | apply ay (hd := rfl)
    | (apply Y_move_d; exact rfl)
    | (apply Y_assign_d; exact rfl)
    | (apply Y_gtr; exact rfl; exact rfl)
    | (apply Y_not; exact rfl)
    | (apply Y_pick_t; exact rfl; exact rfl)
    | (apply Y_pick_f; exact rfl; exact rfl)
    | (apply Y_field_p; exact rfl; exact (by first | with_reducible exact fo_0 | with_reducible exact fo_1 | with_reducible exact fo_2 | with_reducible exact fo_3))
    | (apply Y_load_p; exact rfl; exact (by first | with_reducible exact tc_str | with_reducible exact tc_int | with_reducible exact tc_kind | with_reducible exact tc_tok | with_reducible exact tc_u8s | with_reducible exact tc_toks | with_reducible exact tc_strs | with_reducible exact tc_bool | with_reducible exact tc_err | with_reducible exact tc_i64); exact rfl; exact rfl)
    | (apply Y_load_pa; exact rfl; exact (by first | with_reducible exact tc_str | with_reducible exact tc_int | with_reducible exact tc_kind | with_reducible exact tc_tok | with_reducible exact tc_u8s | with_reducible exact tc_toks | with_reducible exact tc_strs | with_reducible exact tc_bool | with_reducible exact tc_err | with_reducible exact tc_i64); exact rfl; exact rfl; exact rfl)
    | (apply w1; exact rfl; exact rfl)
    | (apply k1 (hd := rfl); exact rfl; exact rfl)
    | (apply gD; exact rfl; exact rfl; (intro hb); rotate_left; (intro hb); rotate_right)
    | (apply awp_condD; exact rfl; (intro hb); rotate_left; (intro hb); rotate_right)
    | (apply awp_condT; exact rfl)
    | refine awp_skip ?_
    | refine awp_ret ?_
    | refine awp_draw (by kernel_rfl) (by kernel_rfl) ?_
    | refine en_r ?_
    | refine rpost_ret ?_
    | (apply res1; exact rfl)
  all_goals first | rfl | exact absurd rfl hb | (exact bl_is (by simp)) | (exfalso; simp at hb; done)
set_option maxHeartbeats 4000000 in
theorem SameL_ok (A B : List Tk) : PCall Tryd.prog 6 [toks A, toks B] (bl true) := by
  refine pcall_of Tryd.func6 rfl Tryd.ntmps6 Tryd.results6 rfl ?_
  intro wb St0
  repeat' first
    | refine en_n ?_
    | refine awp_seq ?_
    | refine awp_region ?_
    | refine alex_nil ?_
    | refine w0 ?_
    | (apply k0u (hd := rfl); exact rfl; exact rfl)
    | (apply Y_eqlb; exact rfl; exact rfl; with_reducible exact ubool)
    | (refine Y_call hb_awake awake_ok CoL_nil)
    | (refine Y_call hb_few (few_ok _) (CoL_d rfl CoL_nil))
    | (refine Y_call hb_own (own_ok A (Nat.le_trans (few_spec (by simpa using ‹(!fewF A) = false›)).1 (by decide))) (CoL_d rfl CoL_nil))
    | (refine Y_call hb_own (own_ok B (Nat.le_trans (few_spec (by simpa using ‹(!fewF B) = false›)).1 (by decide))) (CoL_d rfl CoL_nil))
    | (refine Y_call hb_Same (Same_ok A B (Nat.le_trans (few_spec (by simpa using ‹(!fewF A) = false›)).1 (by decide)) (Nat.le_trans (few_spec (by simpa using ‹(!fewF B) = false›)).1 (by decide))) (CoL_d rfl (CoL_d rfl CoL_nil)))
    | (refine Y_call hb_rSame (rSame_ok A B (Nat.le_trans (few_spec (by simpa using ‹(!fewF A) = false›)).1 (by decide)) (Nat.le_trans (few_spec (by simpa using ‹(!fewF B) = false›)).1 (by decide))) (CoL_d rfl (CoL_d rfl CoL_nil)))
    | apply ay (hd := rfl)
    | (apply Y_move_d; exact rfl)
    | (apply Y_assign_d; exact rfl)
    | (apply Y_not; exact rfl)
    | (apply Y_pick_t; exact rfl; exact rfl)
    | (apply Y_pick_f; exact rfl; exact rfl)
    | (apply w1; exact rfl; exact rfl)
    | (apply g1; exact rfl; exact rfl; (intro hb); rotate_left; (intro hb); rotate_right)
    | (apply awp_condT; exact rfl)
    | (apply awp_cond; exact rfl; (intro hb); rotate_left; (intro hb); rotate_right)
    | refine awp_skip ?_
    | refine awp_ret ?_
    | refine en_r ?_
    | refine rpost_ret ?_
    | (apply res1; exact rfl)
  all_goals first | rfl | exact absurd rfl hb | (exact bl_is (by simp)) | (exfalso; simp at hb; done) | trace_state
end Go.Proofs.YtbgomheagkcmaaaDoor
/- The token statements: what a row's condition gives: the tables in memory; what an argument reads as; the wrap. -/
namespace Go.Proofs.YtbgomheagkcmaaaDoor
open Go.ChangeShapes Go.WideShapes Go.ChangeAt Go.RowKit Go.Deep Go.Sx

theorem Tryd.own : ownKnob Tryd.prog.godebug = none := by kernel_rfl
theorem Tryd.laidOut : laidOutB Tryd.prog = true := by kernel_rfl

section
variable {H : Type} {enc : TypeId × Value → H}
/-- the wrap: the listed variables and the world's shape are handed on -/
theorem wrap_laid {a : Assume} {C : Checked} {os : Os} {f : FuncId} {fn : Func} {s : ChangeSpec} {conds : List PathCond} {apart fresh handsOn again : Bool} {X : World → Array Value → Prop}
    (hX : ∀ (w w' : World) (args : Array Value), w.heap = w'.heap → X w args → X w' args)
    (own : ownKnob C.prog.godebug = none) (started : os.Started) (noInit : C.prog.inits.idxOf? f = none) (hfn : C.prog.funcs[f]? = some fn)
    (witness : ∃ (w : World) (tape : Tape) (i : Input), w.os = os ∧ (w.forCall tape i).Shaped C.prog ∧ i.vars = [] ∧ Input.okWide C.prog (w.forCall tape i) .any w.heap.size f i ∧
      ((s.pre enc C.prog fn conds apart (w.forCall tape i).memory i.args ∧ X (w.forCall tape i).memory i.args) ∧ sizedMet enc C.prog fn (OpenSpec.ofChange s) apart (w.forCall tape i).memory i.args) ∧ a.holds C.prog (lone (Frame.enter C.prog f i.args .normal) [] (w.forCall tape i)))
    (contract : ∀ (W : World) (base : Nat) (args : Array Value) (ds gs : List (DataW H)) (before : List MemPlace),
      (∀ (j : Nat) t v, fn.params[j]? = some t → args[j]? = some v → Value.okWide C.prog W .any base t v) →
      DataW.Whole enc C.prog fn.params.toList s.vars apart W args.toList ds gs before → X W args → W.ShapedOpen C.prog →
      Calls C.prog f args W fun e W' => ∃ v, e = .returned v ∧ s.post enc C.prog fn apart fresh handsOn again W args v W') :
    ReturnsInHanded a C os f .any (fun w args => (s.pre enc C.prog fn conds apart w args ∧ X w args) ∧ sizedMet enc C.prog fn (OpenSpec.ofChange s) apart w args) (s.post enc C.prog fn apart fresh handsOn again) := by
  refine returnsInHanded_of_calls own started noInit witness ?_
  intro w tape i _ hsh _ hok hpre _
  obtain ⟨_, _, _, fn', hfn', _, _, _, _, hval⟩ := hok
  have e : fn' = fn := Option.some.inj (hfn'.symm.trans hfn)
  subst e
  obtain ⟨⟨⟨ds, gs, before, hw, _⟩, hx⟩, _⟩ := hpre
  have hw' := DataW.Whole.of_heap (w' := w.forCall tape i) (by rfl) hw
  refine (contract (w.forCall tape i) w.heap.size i.args ds gs before hval hw' (hX _ _ _ (by rfl) hx) hsh).mono fun e W' ⟨v, he, hp⟩ => ?_
  subst he
  exact ChangeSpec.post_blind hp
end

/-- every cell that there is, or may be -/
def big (W : World) : Stab := fun b _ => b < W.heap.size

theorem var_block {P : Program} {W : World} {n : String} {g : Nat} {cs : Array Value} (hg : P.globalNamed n = some g) (hv : W.var? P n = some cs) : ∃ e t, W.heap[g]? = some (.cells cs e t) := by
  simp only [World.var?, hg, Option.bind_some] at hv
  split at hv
  · rename_i h; injection hv with hv; subst hv; exact ⟨_, _, h⟩
  · cases hv

def theLaid : List (String × DataW Unit) := Rows.lexReadsRow.laid

theorem glob_of {W : World} (hsh : W.ShapedOpen Tryd.prog) (hL : laidMetH Tryd.prog theLaid W) : Glob (big W) W := by
  rw [MakeChecks.laidMetH_plain _ _ _ (by kernel_rfl)] at hL
  have h2 := laidMet.tail (laidMet.tail hL)
  have e2 : (Rows.laid_internal_strconv_uint64pow10 : DataW Unit) = Lib.tabData .u64 Lib.pow10Tab := by kernel_rfl
  rw [e2] at h2
  have ht := Lib.tabIs_of_head (g := 5) (t := 118) (e := 81) (n := 20) (by kernel_rfl) (by kernel_rfl) (by kernel_rfl) (by kernel_rfl) (by kernel_rfl) (by kernel_rfl) h2
  have h5 := laidMet.tail (laidMet.tail (laidMet.tail h2))
  have e5 : (Rows.laid_strings_asciiSpace : DataW Unit) = Lib.tabData .u8 Lib.asciiSpaceTab := by kernel_rfl
  rw [e5] at h5
  have hs := Lib.tabIs_of_head (g := 0) (t := 94) (e := 5) (n := 256) (by kernel_rfl) (by kernel_rfl) (by kernel_rfl) (by kernel_rfl) (by kernel_rfl) (by kernel_rfl) h5
  obtain ⟨cs8, hh8, _, _⟩ := hsh.1 8 #[.pointer none] 112 (of_decide_eq_true (by kernel_rfl)) (by kernel_rfl)
  have hsz : 8 < W.heap.size := (Array.getElem?_eq_some_iff.1 hh8).1
  obtain ⟨m, hm⟩ := cell_of_shapedOpen_int (P := Tryd.prog) (g := 2) (t := 3) (zero := #[.int .i64 0]) hsh (of_decide_eq_true (by kernel_rfl)) (by kernel_rfl) rfl (by kernel_rfl) (by kernel_rfl) uint
  obtain ⟨cs0, hh, hc0, _⟩ := hsh.1 2 #[.int .i64 0] 3 (of_decide_eq_true (by kernel_rfl)) (by kernel_rfl)
  have hc : cs0 = #[.int .i64 m] := by
    obtain ⟨l⟩ := cs0
    match l, hc0 with
    | [c], _ =>
      simp [World.cell?, hh] at hm
      rw [hm]
  subst hc
  exact ⟨fun k hk o => Nat.lt_of_lt_of_le hk hsz, ⟨m, _, _, hh⟩, var_block (by kernel_rfl) ht, var_block (by kernel_rfl) hs⟩

theorem cell_lt {W : World} {a : Addr} {u : Value} (h : W.cell? a = some u) : a.block < W.heap.size := by
  unfold World.cell? at h
  rcases Nat.lt_or_ge a.block W.heap.size with h1 | h1
  · exact h1
  · rw [Array.getElem?_eq_none h1] at h; cases h

theorem exists_list {α : Type} {Q : Nat → α → Prop} : ∀ n : Nat, (∀ i, i < n → ∃ x, Q i x) → ∃ L : List α, L.length = n ∧ ∀ i x, L[i]? = some x → Q i x
  | 0, _ => ⟨[], rfl, fun i x h => by simp at h⟩
  | n + 1, h => by
    obtain ⟨L, hl, hq⟩ := exists_list n (fun i hi => h i (by omega))
    obtain ⟨y, hy⟩ := h n (by omega)
    refine ⟨L ++ [y], by simp [hl], fun i x hx => ?_⟩
    rcases Nat.lt_or_ge i n with h1 | h1
    · rw [List.getElem?_append_left (by omega)] at hx; exact hq i x hx
    · rw [List.getElem?_append_right (by omega), hl] at hx
      rcases Nat.lt_or_ge n i with h2 | h2
      · rw [List.getElem?_eq_none (by simp; omega)] at hx; cases hx
      · have : i = n := by omega
        subst this; simp at hx; subst hx; exact hy

theorem rep_slice {W : World} {a : Addr} {len cap sz : Nat} {xs : List D} (hl : len = xs.length) (hc : len ≤ cap) (hm : cap ≤ maxLen) (hsz : ∀ x ∈ xs, x.flat.length = sz) (hp : 0 < sz)
    (h : ∀ (i : Nat) (d : D), xs[i]? = some d → ∀ (o : Nat) (c : D), d.flat[o]? = some c → ∃ u, W.cell? (a.add (i * sz + o)) = some u ∧ u.oneCell' = true ∧ RepD (big W) W u c) :
    RepD (big W) W (.slice (some a) len cap) (.slice xs) := by
  have hfl := flats_len hsz
  obtain ⟨us, hul, huq⟩ := exists_list (Q := fun j u => W.cell? (a.add j) = some u ∧ u.oneCell' = true ∧ ∀ c, (flats xs)[j]? = some c → RepD (big W) W u c) (xs.length * sz) (fun j hj => by
    have hi : j / sz < xs.length := by rw [Nat.div_lt_iff_lt_mul hp]; exact hj
    have ho : j % sz < sz := Nat.mod_lt _ hp
    have hjj : j / sz * sz + j % sz = j := by rw [Nat.mul_comm]; exact Nat.div_add_mod j sz
    have hd : xs[j / sz]? = some xs[j / sz] := List.getElem?_eq_getElem hi
    have hdl := hsz _ (List.getElem_mem hi)
    have hc' : (xs[j / sz]).flat[j % sz]? = some ((xs[j / sz]).flat[j % sz]'(by omega)) := List.getElem?_eq_getElem (by omega)
    obtain ⟨u, h1, h2, h3⟩ := h _ _ hd _ _ hc'
    refine ⟨u, by rw [← hjj]; exact h1, h2, fun c hcc => ?_⟩
    have h4 := flats_at hsz hd ho
    rw [hjj, hcc, hc'] at h4
    injection h4 with h4; rw [h4]; exact h3)
  refine .slice (some a) len cap sz xs us hl hc hm hsz (by rw [hul, hfl]) (fun u hu => ?_) (fun _ => ⟨a, rfl, fun j u hu => ⟨?_, (huq j u hu).1⟩⟩) (fun j u d hu hd => (huq j u hu).2.2 d hd)
  · obtain ⟨j, hj, rfl⟩ := List.getElem_of_mem hu
    exact (huq j _ (List.getElem?_eq_getElem hj)).2.1
  · have h1 := cell_lt (huq j u hu).1
    have h2 : (a.add j).block = a.block := by unfold Addr.add; split <;> rfl
    rw [h2] at h1; exact h1

theorem rep_nil {W : World} : RepD (big W) W (.slice none 0 0) (.slice []) :=
  .slice none 0 0 0 [] [] rfl (Nat.le_refl _) (Nat.zero_le _) (by simp) (by simp [flats]) (by simp) (fun h => absurd h (by simp)) (fun j u d h => by simp at h)

theorem us_toks : Tryd.prog.underlying 23 = some (.slice 37) := by kernel_rfl
theorem us_tok : Tryd.prog.underlying 37 = some (.struct #[⟨"Kind", 35, 0, false, "", "", 0⟩, ⟨"Text", 9, 1, false, "", "", 8⟩, ⟨"Num", 2, 2, false, "", "", 24⟩, ⟨"At", 3, 3, false, "", "", 32⟩]) := by kernel_rfl
theorem us_kind : Tryd.prog.underlying 35 = some (.int .i64) := by kernel_rfl
theorem co_tok : Tryd.prog.cellsOf 37 = 4 := by kernel_rfl
theorem co_kind : Tryd.prog.cellsOf 35 = 1 := by kernel_rfl
theorem co_str : Tryd.prog.cellsOf 9 = 1 := by kernel_rfl
theorem co_i64 : Tryd.prog.cellsOf 2 = 1 := by kernel_rfl
theorem co_int : Tryd.prog.cellsOf 3 = 1 := by kernel_rfl
theorem one_tok : oneCellFields Tryd.prog #[⟨"Kind", 35, 0, false, "", "", 0⟩, ⟨"Text", 9, 1, false, "", "", 8⟩, ⟨"Num", 2, 2, false, "", "", 24⟩, ⟨"At", 3, 3, false, "", "", 32⟩] = true := by kernel_rfl

def Tk.vals (t : Tk) : List Value := [.int .i64 t.kind, .string ⟨t.text.toArray⟩, .int .i64 t.num, .int .i64 t.pos]

section
variable {H : Type} {enc : TypeId × Value → H} {P : Program} {w : World} {base : Nat} {spare : Nat → Bool} {held : Bool}
theorem open_fields {t e : TypeId} {fs : Array Field} {fuel : Nat} {cs : List Value} {x : DataW H × List MemPlace} (ht : P.underlying t = some (.slice e)) (he : P.underlying e = some (.struct fs))
    (hone : oneCellFields P fs = true) (hC : P.cellsOf e = fs.size) (h : DataW.trod enc P w base spare held fuel t cs = some x) :
    cs = [.slice none 0 0] ∨
    ∃ (a : Addr) (len cap : Nat), cs = [.slice (some a) len cap] ∧ len ≤ cap ∧ cap ≤ maxLen ∧
      ∀ i, i < len → ∃ n : Nat, ∀ (j : Nat) (f : Field), fs[j]? = some f → ∃ (v : Value) (y : DataW H × List MemPlace), w.cell? (a.add (i * fs.size + j)) = some v ∧ DataW.trod enc P w base spare held n f.type [v] = some y := by
  rcases open_slice ht h with h0 | ⟨a, len, cap, m, n, D, Pl, hcs, hb, hl, hm, hmm, hx, hi⟩
  · exact .inl h0.1
  · refine .inr ⟨a, len, cap, hcs, hl, hm, fun i him => ?_⟩
    obtain ⟨cs', hc, ht'⟩ := hi i (by rw [hmm]; split <;> omega)
    rw [hC] at hc
    obtain ⟨ys, n', hn', hy, hlen, hyl, hf⟩ := DataW.trod_struct he ht'
    obtain ⟨_, hcl, hat⟩ := World.cells?_some hc
    refine ⟨n', fun j f hj => ?_⟩
    obtain ⟨ho, hk⟩ := hone_of hone j f hj
    have hjl : j < fs.size := (Array.getElem?_eq_some_iff.1 hj).1
    have hcell := hat j hjl
    have hv : cs'[j]? = some (cs'[j]'(by omega)) := List.getElem?_eq_getElem (by omega)
    have h1 := hf j f hj
    rw [ho, hk] at h1
    have hone' : (cs'.drop j).take 1 = [cs'[j]'(by omega)] := by
      rw [List.drop_eq_getElem_cons (by omega)]
      rfl
    rw [hone'] at h1
    have hys : ys[j]? = some (ys[j]'(by omega)) := List.getElem?_eq_getElem (by omega)
    refine ⟨_, _, ?_, h1.trans hys⟩
    rw [← Go.Deep.add_add, hcell, hv]
end

attribute [local irreducible] Program.underlying
theorem toks_arg {H : Type} {enc : TypeId × Value → H} {W : World} {r : Reach} {b0 : Nat} {v : Value} {d : DataW H} {p : List MemPlace} (hv : Value.okWide Tryd.prog W r b0 23 v) (h : DataW.Trod enc Tryd.prog W 0 (fun _ => true) true 23 v d p) :
    ∃ L, RepD (big W) W v (toks L) := by
  obtain ⟨a, len, cap, rfl⟩ := okWide_slice us_toks hv
  obtain ⟨fuel, h⟩ := h
  rcases open_fields us_toks us_tok one_tok co_tok h with h0 | ⟨a', len', cap', hcs, hl, hm, hi⟩
  · simp [Value.cells] at h0
    obtain ⟨rfl, rfl, rfl⟩ := h0
    exact ⟨[], rep_nil⟩
  · simp [Value.cells] at hcs
    obtain ⟨rfl, rfl, rfl⟩ := hcs
    obtain ⟨L, hL, hq⟩ := exists_list (Q := fun i (n : Tk) => ∀ (o : Nat) (u : Value), n.vals[o]? = some u → W.cell? (a'.add (i * 4 + o)) = some u) len (fun i hil => by
      obtain ⟨n, hf⟩ := hi i hil
      obtain ⟨u0, y0, c0, t0⟩ := hf 0 _ rfl
      obtain ⟨u1, y1, c1, t1⟩ := hf 1 _ rfl
      obtain ⟨u2, y2, c2, t2⟩ := hf 2 _ rfl
      obtain ⟨u3, y3, c3, t3⟩ := hf 3 _ rfl
      obtain ⟨k, e0, _, _⟩ := DataW.trod_int us_kind t0
      obtain ⟨s, e1, _, _⟩ := DataW.trod_string ustr t1
      obtain ⟨m, e2, _, _⟩ := DataW.trod_int ui64 t2
      obtain ⟨z, e3, _, _⟩ := DataW.trod_int uint t3
      injection e0 with e0; injection e1 with e1; injection e2 with e2; injection e3 with e3
      subst e0; subst e1; subst e2; subst e3
      refine ⟨⟨k, s.data.toList, m, z⟩, fun o u hu => ?_⟩
      match o, hu with
      | 0, hu => injection hu with hu; subst hu; exact c0
      | 1, hu => injection hu with hu; subst hu; exact c1
      | 2, hu => injection hu with hu; subst hu; exact c2
      | 3, hu => injection hu with hu; subst hu; exact c3
      | o + 4, hu => simp [Tk.vals] at hu)
    refine ⟨L, rep_slice (sz := 4) (by rw [List.length_map, hL]) hl hm (sz_map fun _ => rfl) (by decide) fun i d hd o c hc => ?_⟩
    rw [List.getElem?_map] at hd
    cases hn : L[i]? with
    | none => rw [hn] at hd; cases hd
    | some n =>
      rw [hn] at hd; injection hd with hd; subst hd
      have h1 := hq i n hn o
      match o, hc, h1 with
      | 0, hc, h1 => injection hc with hc; subst hc; exact ⟨_, h1 _ rfl, rfl, .val _⟩
      | 1, hc, h1 => injection hc with hc; subst hc; exact ⟨_, h1 _ rfl, rfl, .val _⟩
      | 2, hc, h1 => injection hc with hc; subst hc; exact ⟨_, h1 _ rfl, rfl, .val _⟩
      | 3, hc, h1 => injection hc with hc; subst hc; exact ⟨_, h1 _ rfl, rfl, .val _⟩
      | o + 4, hc, _ => exact absurd hc (by simp [Tk.av, D.flat])

theorem list4 {α : Type} : ∀ {l : List α}, l.length = 4 → ∃ a b c d, l = [a, b, c, d]
  | [a, b, c, d], _ => ⟨a, b, c, d, rfl⟩
theorem tok_arg {H : Type} {enc : TypeId × Value → H} {W : World} {r : Reach} {b0 : Nat} {v : Value} {d : DataW H} {p : List MemPlace} (hv : Value.okWide Tryd.prog W r b0 37 v) (h : DataW.Trod enc Tryd.prog W 0 (fun _ => true) true 37 v d p) :
    ∃ t : Tk, RepD (big W) W v t.av := by
  obtain ⟨cs, rfl, hsz⟩ := okWide_struct us_tok hv
  obtain ⟨fuel, h⟩ := h
  obtain ⟨ys, n, _, _, _, hyl, hf⟩ := DataW.trod_struct us_tok h
  rw [co_tok] at hsz
  obtain ⟨l⟩ := cs
  obtain ⟨v0, v1, v2, v3, rfl⟩ := list4 (show l.length = 4 from hsz)
  obtain ⟨y0, y1, y2, y3, rfl⟩ := list4 (show ys.length = 4 from hyl)
  have t0 : DataW.trod enc Tryd.prog W 0 (fun _ => true) true n 35 (([v0, v1, v2, v3].drop 0).take (Tryd.prog.cellsOf 35)) = some y0 := hf 0 _ rfl
  have t1 : DataW.trod enc Tryd.prog W 0 (fun _ => true) true n 9 (([v0, v1, v2, v3].drop 1).take (Tryd.prog.cellsOf 9)) = some y1 := hf 1 _ rfl
  have t2 : DataW.trod enc Tryd.prog W 0 (fun _ => true) true n 2 (([v0, v1, v2, v3].drop 2).take (Tryd.prog.cellsOf 2)) = some y2 := hf 2 _ rfl
  have t3 : DataW.trod enc Tryd.prog W 0 (fun _ => true) true n 3 (([v0, v1, v2, v3].drop 3).take (Tryd.prog.cellsOf 3)) = some y3 := hf 3 _ rfl
  rw [co_kind] at t0; rw [co_str] at t1; rw [co_i64] at t2; rw [co_int] at t3
  obtain ⟨k, e0, _, _⟩ := DataW.trod_int us_kind (t0 : DataW.trod enc Tryd.prog W 0 (fun _ => true) true n _ [v0] = some y0)
  obtain ⟨s, e1, _, _⟩ := DataW.trod_string ustr (t1 : DataW.trod enc Tryd.prog W 0 (fun _ => true) true n _ [v1] = some y1)
  obtain ⟨m, e2, _, _⟩ := DataW.trod_int ui64 (t2 : DataW.trod enc Tryd.prog W 0 (fun _ => true) true n _ [v2] = some y2)
  obtain ⟨z, e3, _, _⟩ := DataW.trod_int uint (t3 : DataW.trod enc Tryd.prog W 0 (fun _ => true) true n _ [v3] = some y3)
  injection e0 with e0; injection e1 with e1; injection e2 with e2; injection e3 with e3
  subst e0; subst e1; subst e2; subst e3
  refine ⟨⟨k, s.data.toList, m, z⟩, .agg [_, _, _, _] _ rfl (fun u hu => ?_) (fun j u d hu hd => ?_)⟩
  · simp at hu; rcases hu with rfl | rfl | rfl | rfl <;> rfl
  · match j, hu, hd with
    | 0, hu, hd => injection hu with hu; injection hd with hd; subst hu; subst hd; exact .val _
    | 1, hu, hd => injection hu with hu; injection hd with hd; subst hu; subst hd; exact .val _
    | 2, hu, hd => injection hu with hu; injection hd with hd; subst hu; subst hd; exact .val _
    | 3, hu, hd => injection hu with hu; injection hd with hd; subst hu; subst hd; exact .val _
    | j + 4, hu, _ => simp at hu
end Go.Proofs.YtbgomheagkcmaaaDoor
/- The token statements, plainly: what tokens come of texts put together, and of tokens put as a text. -/
namespace Go.Proofs.YtbgomheagkcmaaaDoor
open Go.Sx Go.RowKit Go.Lib

/-! ### a text that is followed by another one -/
/-- that byte ends whatever stands ahead of it -/
def sep (d : UInt8) : Prop := d = 32 ∨ d = 10
theorem sep_inner {d : UInt8} (h : sep d) : isInner d = false := by rcases h with rfl | rfl <;> decide
theorem sep_sign {d : UInt8} (h : sep d) : isSign d = false := by rcases h with rfl | rfl <;> decide
theorem sep_digit {d : UInt8} (h : sep d) : isDigit d = false := by rcases h with rfl | rfl <;> decide
theorem span_app {p : UInt8 → Bool} {d : UInt8} (hp : p d = false) (v : List UInt8) : ∀ s : List UInt8, spanF p (s ++ d :: v) = spanF p s
  | [] => by simp [spanF, hp]
  | c :: s => by rw [List.cons_append, spanF, spanF, span_app hp v s]
theorem take_app {s w : List UInt8} {n : Nat} (h : n ≤ s.length) : (s ++ w).take n = s.take n := by
  rw [List.take_append, show n - s.length = 0 by omega, List.take_zero, List.append_nil]
theorem drop_app {s w : List UInt8} {n : Nat} (h : n ≤ s.length) : (s ++ w).drop n = s.drop n ++ w := by
  rw [List.drop_append, show n - s.length = 0 by omega, List.drop_zero]
theorem pre_app {d : UInt8} (h : sep d) (v : List UInt8) {s : List UInt8} (hs : s ≠ []) : Lib.hasPrefix (s ++ d :: v) [59, 59] = Lib.hasPrefix s [59, 59] := by
  rw [Bool.eq_iff_iff, pre59, pre59]
  match s, hs with
  | [c], _ =>
    have : d ≠ 59 := by rcases h with rfl | rfl <;> decide
    simp [this]
  | c :: e :: s, _ => simp
/-- a text that is whole stays so -/
theorem quotedG_app (w : List UInt8) (n : Nat) : ∀ (s b : List UInt8), s.length ≤ n → ∀ b' r, quotedG b s = some (b', r) → quotedG b (s ++ w) = some (b', r ++ w) := by
  induction n with
  | zero =>
    intro s b hs b' r h
    cases s with
    | nil => rw [q_nil] at h; cases h
    | cons c s => simp at hs
  | succ n ih =>
    intro s b hs b' r h
    cases s with
    | nil => rw [q_nil] at h; cases h
    | cons c s =>
      simp only [List.length_cons] at hs
      rw [List.cons_append, q_cons]
      rw [q_cons] at h
      split at h
      · rename_i g; cases h; rw [if_pos g]
      rename_i g; rw [if_neg g]
      split at h
      · cases h
      rename_i g; rw [if_neg g]
      split at h
      · rename_i g; rw [if_pos g]; exact ih s _ (by omega) _ _ h
      rename_i g; rw [if_neg g]
      cases s with
      | nil => cases h
      | cons d s =>
        simp only [List.length_cons] at hs
        dsimp only at h
        rw [List.cons_append]; dsimp only
        split at h
        · rename_i g; rw [if_pos g]; exact ih s _ (by omega) _ _ h
        rename_i g; rw [if_neg g]
        split at h
        · rename_i g; rw [if_pos g]; exact ih s _ (by omega) _ _ h
        rename_i g; rw [if_neg g]
        split at h
        · rename_i g; rw [if_pos g]
          match s, h, hs with
          | x :: y :: s, h, hs =>
            simp only [List.length_cons] at hs
            dsimp only at h
            rw [List.cons_append, List.cons_append]; dsimp only
            split at h
            · cases h
            · rename_i g; rw [if_neg g]; exact ih s _ (by omega) _ _ h
          | [_], h, _ => cases h
          | [], h, _ => cases h
        · cases h
/-- what is no text is none when a line feed follows -/
theorem quotedG_lf (v : List UInt8) (n : Nat) : ∀ (s b : List UInt8), s.length ≤ n → quotedG b s = none → quotedG b (s ++ 10 :: v) = none := by
  have h10 : ∀ b, quotedG b (10 :: v) = none := fun b => q_bad (.inl (by decide))
  induction n with
  | zero =>
    intro s b hs h
    cases s with
    | nil => exact h10 b
    | cons c s => simp at hs
  | succ n ih =>
    intro s b hs h
    cases s with
    | nil => exact h10 b
    | cons c s =>
      simp only [List.length_cons] at hs
      rw [List.cons_append, q_cons]
      rw [q_cons] at h
      split at h
      · cases h
      rename_i g; rw [if_neg g]
      split at h
      · rename_i g; rw [if_pos g]
      rename_i g; rw [if_neg g]
      split at h
      · rename_i g; rw [if_pos g]; exact ih s _ (by omega) h
      rename_i g; rw [if_neg g]
      cases s with
      | nil => rfl
      | cons d s =>
        simp only [List.length_cons] at hs
        dsimp only at h
        rw [List.cons_append]; dsimp only
        split at h
        · rename_i g; rw [if_pos g]; exact ih s _ (by omega) h
        rename_i g; rw [if_neg g]
        split at h
        · rename_i g; rw [if_pos g]; exact ih s _ (by omega) h
        rename_i g; rw [if_neg g]
        split at h
        · rename_i g; rw [if_pos g]
          match s, h, hs with
          | x :: y :: s, h, hs =>
            simp only [List.length_cons] at hs
            dsimp only at h
            rw [List.cons_append, List.cons_append]; dsimp only
            split at h
            · rename_i g; rw [if_pos g]
            · rename_i g; rw [if_neg g]; exact ih s _ (by omega) h
          | [x], _, _ =>
            rw [List.singleton_append]
            cases v with
            | nil => dsimp only; rw [if_pos (.inr (by decide))]
            | cons => dsimp only; rw [if_pos (.inr (by decide))]
          | [], _, _ =>
            rw [List.nil_append]
            match v with
            | [] => rfl
            | y :: v => dsimp only; rw [if_pos (.inl (by decide))]
        · rename_i g; rw [if_neg g]
theorem quoted_app {s : List UInt8} {d : UInt8} {v : List UInt8} (hs : s ≠ []) (h : quotedN s ≠ 0 ∨ d = 10) : quotedN (s ++ d :: v) = quotedN s ∧ quotedS (s ++ d :: v) = quotedS s := by
  have hl : 1 ≤ s.length := by cases s with | nil => exact absurd rfl hs | cons => simp
  have hd : (s ++ d :: v).drop 1 = s.drop 1 ++ d :: v := drop_app hl
  cases e : quotedG [] (s.drop 1) with
  | some x =>
    obtain ⟨b, r⟩ := x
    have e2 := quotedG_app (d :: v) _ _ _ (Nat.le_refl _) _ _ e
    rw [← hd] at e2
    rw [quotedN, quotedN, quotedS, quotedS, e, e2]
    refine ⟨?_, rfl⟩
    dsimp only
    rw [List.length_append, List.length_append]; omega
  | none =>
    have hd10 : d = 10 := by
      rcases h with h | h
      · rw [quotedN, e] at h; exact absurd rfl h
      · exact h
    subst hd10
    have e2 := quotedG_lf v _ _ _ (Nat.le_refl _) e
    rw [← hd] at e2
    rw [quotedN, quotedN, quotedS, quotedS, e, e2]; exact ⟨rfl, rfl⟩
/-- the token that a text begins with is the same when more follows -/
theorem one_app {s : List UInt8} {d : UInt8} {v : List UInt8} (hd : sep d) (hs : s ≠ []) (h : (oneF s).2.2 = 0 ∨ d = 10) : oneF (s ++ d :: v) = oneF s := by
  have h0 : (s ++ d :: v).getD 0 0 = s.getD 0 0 := by cases s with | nil => exact absurd rfl hs | cons => rfl
  have hl : 1 ≤ s.length := by cases s with | nil => exact absurd rfl hs | cons => simp
  have hi := spanF_le isInner s
  have hg := spanF_le isSign s
  have hdg := spanF_le isDigit (s.drop 1)
  rw [List.length_drop] at hdg
  have hd1 : (s ++ d :: v).drop 1 = s.drop 1 ++ d :: v := drop_app hl
  have hp := pre_app hd v hs
  have e1 : ∀ n, n ≤ s.length → (s ++ d :: v).take n = s.take n := fun n hn => take_app hn
  unfold oneF
  dsimp only
  rw [h0, span_app (sep_inner hd), span_app (sep_sign hd), hd1, span_app (sep_digit hd), hp, e1 _ hi, e1 _ hg, e1 1 hl, e1 _ (show 1 + spanF isDigit (s.drop 1) ≤ s.length by omega)]
  by_cases h1 : isSmall (s.getD 0 0) = true
  · rw [if_pos h1, if_pos h1]
  rw [if_neg h1, if_neg h1]
  by_cases h2 : isGreat (s.getD 0 0) = true
  · rw [if_pos h2, if_pos h2]
  rw [if_neg h2, if_neg h2]
  by_cases h3 : isSign (s.getD 0 0) = true
  · rw [if_pos h3, if_pos h3]
  rw [if_neg h3, if_neg h3]
  by_cases h4 : s.getD 0 0 = 40 ∨ s.getD 0 0 = 41 ∨ s.getD 0 0 = 95
  · rw [if_pos h4, if_pos h4]
  rw [if_neg h4, if_neg h4]
  by_cases h5 : Lib.hasPrefix s [59, 59] = true
  · rw [if_pos h5, if_pos h5]
    have := hasPrefix_le (p := [59, 59]) h5
    rw [e1 2 this]
  rw [if_neg h5, if_neg h5]
  by_cases h6 : isDigit (s.getD 0 0) = true ∨ s.getD 0 0 = 126
  · rw [if_pos h6, if_pos h6]
  rw [if_neg h6, if_neg h6]
  by_cases h7 : s.getD 0 0 = 34
  · rw [if_pos h7, if_pos h7]
    have hq : quotedN s ≠ 0 ∨ d = 10 := by
      rcases h with h | h
      · left; intro hz
        rw [o_34 h7, if_pos (.inl hz)] at h
        exact absurd h (by decide)
      · exact .inr h
    obtain ⟨q1, q2⟩ := quoted_app (v := v) hs hq
    rw [q1, q2]
  · rw [if_neg h7, if_neg h7]
end Go.Proofs.YtbgomheagkcmaaaDoor
/- The token statements, plainly: a text behind another one; tokens put as a text are read as they were. -/
namespace Go.Proofs.YtbgomheagkcmaaaDoor
open Go.Sx Go.RowKit Go.Lib

theorem lexS_lf (v : List UInt8) (n : Nat) : ∀ (s : List UInt8) (a : Nat) (acc : List Tk), s.length ≤ n → acc.length + s.length < 4000 →
    lexS (s ++ 10 :: v) a acc = if (lexS s a acc).2.2 = 0 then lexS v (a + s.length + 1) (lexS s a acc).1 else lexS s a acc := by
  induction n with
  | zero =>
    intro s a acc hs hb
    cases s with
    | nil => rw [List.nil_append, lexS_cons, if_pos (.inr rfl), lexS_nil]; rfl
    | cons c s => simp at hs
  | succ n ih =>
    intro s a acc hs hb
    cases s with
    | nil => rw [List.nil_append, lexS_cons, if_pos (.inr rfl), lexS_nil]; rfl
    | cons c r =>
      simp only [List.length_cons] at hs hb
      rw [List.cons_append, lexS_cons, lexS_cons, ← List.cons_append]
      by_cases h1 : c = 32 ∨ c = 10
      · rw [if_pos h1, if_pos h1, ih r (a + 1) acc (by omega) (by omega), List.length_cons, show a + 1 + r.length + 1 = a + (r.length + 1) + 1 by omega]
      rw [if_neg h1, if_neg h1]
      by_cases h2 : c = 35
      · have hk := spanF_le isBound (c :: r)
        have hk1 := bound_pos (r := r) h2
        rw [List.length_cons] at hk
        rw [if_pos h2, if_pos h2, span_app (p := isBound) (d := 10) (by decide) v (c :: r), drop_app (by rw [List.length_cons]; exact hk)]
        rw [ih _ _ acc (by rw [List.length_drop, List.length_cons]; omega) (by rw [List.length_drop, List.length_cons]; omega)]
        rw [List.length_drop, List.length_cons, show a + spanF isBound (c :: r) + (r.length + 1 - spanF isBound (c :: r)) + 1 = a + (r.length + 1) + 1 by omega]
      rw [if_neg h2, if_neg h2, one_app (.inr rfl) (by simp) (.inr rfl)]
      by_cases h3 : (oneF (c :: r)).2.2 ≠ 0
      · rw [if_pos h3, if_pos h3]; dsimp only; rw [if_neg h3]
      rw [if_neg h3, if_neg h3, if_neg (show ¬ acc.length = 4000 by omega), if_neg (show ¬ acc.length = 4000 by omega)]
      have hl := one_len (s := c :: r) (by simp) (Decidable.not_not.1 h3)
      rw [List.length_cons] at hl
      rw [drop_app (by rw [List.length_cons]; omega), ih _ _ _ (by rw [List.length_drop, List.length_cons]; omega) (by rw [List.length_drop, List.length_cons, List.length_append, List.length_singleton]; omega)]
      rw [List.length_drop, List.length_cons, show a + (oneF (c :: r)).2.1.toNat + (r.length + 1 - (oneF (c :: r)).2.1.toNat) + 1 = a + (r.length + 1) + 1 by omega]

/-! ### a text that is written is read -/
theorem hexD_V : ∀ k : Fin 16, hexV (hexD k.1) = k.1 := by decide
theorem hexB_of (c : UInt8) : hexB (hexD (c.toNat / 16)) (hexD (c.toNat % 16)) = c := by
  have h := c.toNat_lt
  have e1 := hexD_V ⟨c.toNat / 16, by omega⟩
  have e2 := hexD_V ⟨c.toNat % 16, by omega⟩
  dsimp only at e1 e2
  rw [hexB, e1, e2]
  have : 16 * ((c.toNat / 16 : Nat) : Int).toNat + ((c.toNat % 16 : Nat) : Int).toNat = c.toNat := by omega
  rw [this]; simp
theorem quote_read (w : List UInt8) : ∀ (s b : List UInt8), quotedG b (s.flatMap quoteC ++ 34 :: w) = some (b ++ s, w)
  | [], b => by rw [List.flatMap_nil, List.nil_append, q_end1 (by decide), List.append_nil]
  | c :: s, b => by
    have ih := quote_read w s (b ++ [c])
    rw [List.append_assoc, List.singleton_append] at ih
    rw [List.flatMap_cons, List.append_assoc]
    by_cases h1 : (c.toNat : Int) = 34
    · rw [qC_a h1]; exact (q_escd (by decide) (.inl h1)).trans ih
    by_cases h2 : (c.toNat : Int) = 92
    · rw [qC_b h2]; exact (q_escd (by decide) (.inr h2)).trans ih
    by_cases h3 : (c.toNat : Int) = 10
    · rw [qC_n h3]; rw [c_eq 10 h3] at ih ⊢; exact (q_escn (by decide) (by decide)).trans ih
    by_cases h4 : (c.toNat : Int) < 32 ∨ (c.toNat : Int) > 126
    · have h := c.toNat_lt
      have e1 := hexD_V ⟨c.toNat / 16, by omega⟩
      have e2 := hexD_V ⟨c.toNat % 16, by omega⟩
      dsimp only at e1 e2
      rw [qC_x h1 h2 h3 h4]
      refine (q_escx (by decide) (by decide)).trans ?_
      rw [if_neg (by rw [e1, e2]; omega), hexB_of]; exact ih
    · rw [qC_p h1 h2 h3 h4]; exact (q_byte h1 h4 h2).trans ih
theorem quoteF_read (s : List UInt8) (w : List UInt8) : quotedG [] ((quoteF s ++ w).drop 1) = some (s, w) := by
  have : (quoteF s ++ w).drop 1 = s.flatMap quoteC ++ 34 :: w := by simp [quoteF]
  rw [this]; exact quote_read w s []
theorem quoteF_N (s : List UInt8) : quotedN (quoteF s) = (quoteF s).length ∧ quotedS (quoteF s) = s := by
  have h := quoteF_read s []
  rw [List.append_nil] at h
  rw [quotedN, quotedS, h]; exact ⟨by simp, rfl⟩

/-! ### a token's word is read as the token -/
theorem span_full {p : UInt8 → Bool} {s : List UInt8} (h : s.all p = true) : spanF p s = s.length := (span_all p s).2 h
theorem all_parts {p : UInt8 → Bool} {s : List UInt8} (h : allF p s = true) : s.all p = true ∧ s ≠ [] := by
  simp only [allF, Bool.and_eq_true, Bool.not_eq_true', List.isEmpty_eq_false_iff] at h; exact h
theorem isK_5 : ∀ c, isSign c = true → isK c = 5 := u8_all (by decide +kernel)
theorem isK_3 : ∀ c, isDigit c = true → isK c = 3 := u8_all (by decide +kernel)
theorem all_head {p : UInt8 → Bool} {s : List UInt8} (h : s.all p = true) (hs : s ≠ []) : p (s.getD 0 0) = true := by
  cases s with
  | nil => exact absurd rfl hs
  | cons c s => simp at h; exact h.1
theorem kws_one : ∀ k ∈ kws, oneF k = (⟨6, k, 0, 0⟩, (k.length : Int), 0) := by decide +kernel
theorem dig_digit : ∀ c, isDig c = isDigit c := u8_all (by decide +kernel)
theorem shw_one {n : Int} (h : -4611686018427387904 ≤ n ∧ n ≤ 4611686018427387903) : oneF (shw n) = (⟨3, [], n, 0⟩, ((shw n).length : Int), 0) := by
  obtain ⟨hr, hs⟩ := rd_shw n h
  have hN : rdN (shw n) = n := by rw [rdN, if_pos hr, hs]
  have hlong := (rd_long hr).2
  have hall : (dg (shw n)).all isDigit = true := by
    have h2 := hr
    simp only [rdOk, Bool.and_eq_true] at h2
    rw [show isDigit = isDig from funext fun c => (dig_digit c).symm]; exact h2.1.1.1
  generalize shw n = s at *
  have key : ∀ (h3 : isK (s.getD 0 0) = 3 ∨ s.getD 0 0 = 126), (s.drop 1).all isDigit = true → s ≠ [] → oneF s = (⟨3, [], n, 0⟩, (s.length : Int), 0) := by
    intro h3 hd hne
    have hl : 1 ≤ s.length := by cases s with | nil => exact absurd rfl hne | cons => simp
    have e : 1 + spanF isDigit (s.drop 1) = s.length := by rw [span_full hd, List.length_drop]; omega
    rw [o_3 h3, e, List.take_length, if_pos hr, hN]
  cases hp : Lib.hasPrefix s [126] with
  | true =>
    cases s with
    | nil => simp [Lib.hasPrefix] at hp
    | cons c r =>
      have hc : c = 126 := by simp [Lib.hasPrefix, List.isPrefixOf] at hp; exact hp.symm
      subst hc
      rw [dg_cons] at hall
      exact key (.inr rfl) hall (by simp)
  | false =>
    have e : dg s = s := by rw [dg, Lib.trimPrefix, hp]; rfl
    rw [e] at hall hlong
    refine key (.inl (isK_3 _ (all_head hall hlong))) ?_ hlong
    rw [List.all_eq_true] at hall ⊢
    exact fun x hx => hall x (List.mem_of_mem_drop hx)
theorem word_one {t : Tk} (h : rightF t = true) : oneF (wordF t) = (⟨t.kind, t.text, t.num, 0⟩, ((wordF t).length : Int), 0) := by
  have hw : wordF t = if t.kind = 3 then shw (W t.num) else if t.kind = 4 then quoteF t.text else t.text := by rw [wordF, if_pos h]
  obtain ⟨k, x, m, q⟩ := t
  dsimp only at hw ⊢
  unfold rightF at h
  dsimp only at h
  split at h
  · cases h
  split at h
  · rename_i hk; subst hk
    simp only [namedF, Bool.and_eq_true, decide_eq_true_eq, Bool.not_eq_true'] at h
    obtain ⟨rfl, ⟨ha, hc⟩, hn⟩ := h
    rw [hw, if_neg (by decide), if_neg (by decide), o_1 ((isK_1 _).2 hc), span_full (all_parts ha).1, List.take_length, keyT, hn]; rfl
  split at h
  · rename_i hk; subst hk
    simp only [namedF, Bool.and_eq_true, decide_eq_true_eq, Bool.not_eq_true'] at h
    obtain ⟨rfl, ⟨ha, hc⟩, hn⟩ := h
    rw [hw, if_neg (by decide), if_neg (by decide), o_2 ((isK_2 _).2 hc), span_full (all_parts ha).1, List.take_length, keyT, hn]; rfl
  split at h
  · rename_i hk; subst hk
    simp only [Bool.and_eq_true, decide_eq_true_eq] at h
    obtain ⟨rfl, hm⟩ := h
    have hb := W_bd m
    rw [hm] at hb
    rw [hw, if_pos rfl, hm, shw_one hb]
  split at h
  · rename_i hk; subst hk
    simp only [Bool.and_eq_true, decide_eq_true_eq] at h
    obtain ⟨rfl, hl⟩ := h
    obtain ⟨q1, q2⟩ := quoteF_N x
    rw [hw, if_neg (by decide), if_pos rfl, o_34 rfl, q1, q2, if_neg]
    rintro (h | h)
    · simp [quoteF] at h; omega
    · omega
  split at h
  · rename_i hk; subst hk
    simp only [Bool.and_eq_true, decide_eq_true_eq, Bool.not_eq_true'] at h
    obtain ⟨⟨rfl, ha⟩, hn⟩ := h
    obtain ⟨h1, h2⟩ := all_parts ha
    rw [hw, if_neg (by decide), if_neg (by decide), o_5 (isK_5 _ (all_head h1 h2)), span_full h1, List.take_length, keyT, hn]; rfl
  split at h
  · rename_i hk; subst hk
    simp only [Bool.and_eq_true, decide_eq_true_eq] at h
    obtain ⟨rfl, hn⟩ := h
    rw [hw, if_neg (by decide), if_neg (by decide), kws_one x (List.contains_iff_mem.1 hn)]
  · cases h
theorem word_ne {t : Tk} (h : rightF t = true) : wordF t ≠ [] := by
  intro e
  have h1 := word_one h
  rw [e] at h1
  have : oneF [] = (tk0, 0, 30) := by decide +kernel
  rw [this] at h1
  exact absurd (congrArg (fun x => x.2.2) h1) (show ¬ (30 : Int) = 0 by decide)

/-! ### tokens as a text, and read again -/
theorem tail_read : ∀ (M : List Tk), (∀ t ∈ M, rightF t = true) → ∀ (a : Nat) (acc : List Tk), acc.length + M.length < 4000 → ∃ M' : List Tk, M'.map stp = M.map stp ∧ lexS (Lib.joinTail [32] (M.map wordF)) a acc = (acc ++ M', 0, 0)
  | [], _, a, acc, _ => ⟨[], rfl, by rw [List.append_nil]; rfl⟩
  | t :: M, hM, a, acc, hb => by
    simp only [List.length_cons] at hb
    have ht := hM t (by simp)
    have e : Lib.joinTail [32] ((t :: M).map wordF) = 32 :: (wordF t ++ Lib.joinTail [32] (M.map wordF)) := by simp [Lib.joinTail]
    have hone : oneF (wordF t ++ Lib.joinTail [32] (M.map wordF)) = (⟨t.kind, t.text, t.num, 0⟩, ((wordF t).length : Int), 0) := by
      cases M with
      | nil => rw [show Lib.joinTail [32] (([] : List Tk).map wordF) = [] from rfl, List.append_nil]; exact word_one ht
      | cons u M =>
        rw [show Lib.joinTail [32] ((u :: M).map wordF) = 32 :: (wordF u ++ Lib.joinTail [32] (M.map wordF)) by simp [Lib.joinTail]]
        rw [one_app (.inl rfl) (word_ne ht) (.inl (by rw [word_one ht])), word_one ht]
    rw [e, lx_sp, lx_step (by simp [word_ne ht]) hone (by omega), List.drop_left]
    obtain ⟨M', h1, h2⟩ := tail_read M (fun t ht => hM t (by simp [ht])) (a + 1 + (wordF t).length) (acc ++ [at_ ⟨t.kind, t.text, t.num, 0⟩ (a + 1)]) (by rw [List.length_append, List.length_singleton]; omega)
    exact ⟨at_ ⟨t.kind, t.text, t.num, 0⟩ (a + 1) :: M', by rw [List.map_cons, List.map_cons, h1]; rfl, by rw [h2, List.append_assoc]; rfl⟩
theorem show_read {L : List Tk} (h : showO L = true) (hL : L.length < 4000) : (lexF (showS L)).2 = (0, 0) ∧ (lexF (showS L)).1.map stp = L.map stp := by
  rw [showS, if_pos h]
  rw [showO, List.all_eq_true] at h
  cases L with
  | nil => exact ⟨rfl, rfl⟩
  | cons t M =>
    have ht := h t (by simp)
    rw [List.map_cons, Lib.join_cons, lexF]
    have hone : oneF (wordF t ++ Lib.joinTail [32] (M.map wordF)) = (⟨t.kind, t.text, t.num, 0⟩, ((wordF t).length : Int), 0) := by
      cases M with
      | nil => rw [show Lib.joinTail [32] (([] : List Tk).map wordF) = [] from rfl, List.append_nil]; exact word_one ht
      | cons u M =>
        rw [show Lib.joinTail [32] ((u :: M).map wordF) = 32 :: (wordF u ++ Lib.joinTail [32] (M.map wordF)) by simp [Lib.joinTail]]
        rw [one_app (.inl rfl) (word_ne ht) (.inl (by rw [word_one ht])), word_one ht]
    rw [lx_step (by simp [word_ne ht]) hone (by decide), List.drop_left]
    simp only [List.length_cons] at hL
    obtain ⟨M', h1, h2⟩ := tail_read M (fun t ht => h t (by simp [ht])) (0 + (wordF t).length) ([] ++ [at_ ⟨t.kind, t.text, t.num, 0⟩ 0]) (by simp; omega)
    rw [h2]
    exact ⟨rfl, by simp [h1, at_, stp]⟩
end Go.Proofs.YtbgomheagkcmaaaDoor
/- The token statements, plainly: each token that is read may be; where they stand; bounds. -/
namespace Go.Proofs.YtbgomheagkcmaaaDoor
open Go.Sx Go.RowKit Go.Lib

theorem spanF_all (p : UInt8 → Bool) : ∀ s : List UInt8, (s.take (spanF p s)).all p = true
  | [] => rfl
  | c :: s => by
    rw [spanF]; split
    · rename_i h; rw [List.take_succ_cons, List.all_cons, h, spanF_all p s]; rfl
    · rfl
theorem allF_take {p : UInt8 → Bool} {s : List UInt8} (hs : s ≠ []) (h : p (s.getD 0 0) = true) : allF p (s.take (spanF p s)) = true ∧ (s.take (spanF p s)).getD 0 0 = s.getD 0 0 := by
  have h1 := span_pos hs h
  have h2 := spanF_all p s
  cases s with
  | nil => exact absurd rfl hs
  | cons c s =>
    obtain ⟨k, hk⟩ : ∃ k, spanF p (c :: s) = k + 1 := ⟨spanF p (c :: s) - 1, by omega⟩
    rw [hk] at h2 ⊢
    rw [List.take_succ_cons] at h2 ⊢
    exact ⟨by rw [allF, h2]; rfl, rfl⟩
theorem right_key {x : List UInt8} {k : Int} {a : Nat} (h : isKey x = false → rightF ⟨k, x, 0, a⟩ = true) : rightF (at_ (keyT x k 0) a) = true := by
  show rightF ⟨if isKey x then 6 else k, x, 0, a⟩ = true
  cases hk : isKey x with
  | true =>
    rw [if_pos rfl, rightF]
    have h0 : ¬ ((a : Nat) : Int) < 0 := by omega
    simp [h0, hk]
  | false => rw [if_neg (by decide)]; exact h hk
/-- a token that a text begins with may be, and its text is no longer -/
theorem one_right {s : List UInt8} (hs : s ≠ []) (he : (oneF s).2.2 = 0) (a : Nat) : rightF (at_ (oneF s).1 a) = true ∧ ((oneF s).1.text.length : Int) ≤ (oneF s).2.1 := by
  have h0 : ¬ ((a : Nat) : Int) < 0 := by omega
  have hl : 1 ≤ s.length := by cases s with | nil => exact absurd rfl hs | cons => simp
  by_cases h1 : isSmall (s.getD 0 0) = true
  · rw [o_1 ((isK_1 _).2 h1)]
    obtain ⟨g1, g2⟩ := allF_take hs (small_inner _ h1)
    refine ⟨right_key fun hk => ?_, by show ((s.take (spanF isInner s)).length : Int) ≤ (spanF isInner s : Int); rw [List.length_take]; omega⟩
    have hN : namedF isSmall (s.take (spanF isInner s)) = true := by rw [namedF, g1, g2, h1, hk]; rfl
    simp [rightF, h0, hN]
  by_cases h2 : isGreat (s.getD 0 0) = true
  · rw [o_2 ((isK_2 _).2 h2)]
    obtain ⟨g1, g2⟩ := allF_take hs (great_inner _ h2)
    refine ⟨right_key fun hk => ?_, by show ((s.take (spanF isInner s)).length : Int) ≤ (spanF isInner s : Int); rw [List.length_take]; omega⟩
    have hN : namedF isGreat (s.take (spanF isInner s)) = true := by rw [namedF, g1, g2, h2, hk]; rfl
    simp [rightF, h0, hN]
  by_cases h3 : isSign (s.getD 0 0) = true
  · rw [o_5 (isK_5 _ h3)]
    obtain ⟨g1, g2⟩ := allF_take hs h3
    refine ⟨right_key fun hk => ?_, by show ((s.take (spanF isSign s)).length : Int) ≤ (spanF isSign s : Int); rw [List.length_take]; omega⟩
    simp [rightF, h0, g1, hk]
  by_cases h4 : s.getD 0 0 = 40 ∨ s.getD 0 0 = 41 ∨ s.getD 0 0 = 95
  · rw [o_p h4]
    refine ⟨right_key fun hk => ?_, by show ((s.take 1).length : Int) ≤ 1; rw [List.length_take]; omega⟩
    exfalso
    have e : s.take 1 = [s.getD 0 0] := by cases s with | nil => exact absurd rfl hs | cons c s => rfl
    rw [e] at hk
    rcases h4 with h | h | h <;> rw [h] at hk <;> exact absurd hk (by decide)
  by_cases h5 : Lib.hasPrefix s [59, 59] = true
  · obtain ⟨g1, g2, g3⟩ := pre59.1 h5
    rw [o_s g1 g2 g3]
    exact ⟨right_key fun hk => absurd hk (by decide), by decide⟩
  by_cases h6 : isDigit (s.getD 0 0) = true ∨ s.getD 0 0 = 126
  · have o3 := o_3 (s := s) (h6.imp (isK_3 _) id)
    rw [o3] at he ⊢
    split at he
    · rename_i hr
      rw [if_pos hr]
      have hb : W (rdN (s.take (1 + spanF isDigit (s.drop 1)))) = rdN (s.take (1 + spanF isDigit (s.drop 1))) := by
        rw [rdN, if_pos hr]
        simp only [rdOk, Bool.and_eq_true, decide_eq_true_eq] at hr
        exact W_id ⟨hr.1.1.2, hr.1.2⟩
      refine ⟨?_, by show ((0 : Nat) : Int) ≤ ((1 + spanF isDigit (s.drop 1) : Nat) : Int); omega⟩
      generalize rdN (s.take (1 + spanF isDigit (s.drop 1))) = z at hb ⊢
      simp [rightF, at_, h0, hb]
    · exact absurd he (by decide)
  by_cases h7 : s.getD 0 0 = 34
  · have o4 := o_34 h7
    rw [o4] at he ⊢
    split at he
    · exact absurd he (by decide)
    · rename_i hq
      rw [if_neg hq]
      refine ⟨?_, ?_⟩
      · have : (quotedS s).length ≤ 200 := by omega
        simp [rightF, at_, h0, this]
      · show ((quotedS s).length : Int) ≤ quotedN s
        have : ∀ (n : Nat) (x b b' r : List UInt8), x.length ≤ n → quotedG b x = some (b', r) → b'.length + r.length ≤ b.length + x.length := by
          intro n
          induction n with
          | zero =>
            intro x b b' r hx h
            cases x with
            | nil => rw [q_nil] at h; cases h
            | cons c x => simp at hx
          | succ n ih =>
            intro x b b' r hx h
            cases x with
            | nil => rw [q_nil] at h; cases h
            | cons c x =>
              simp only [List.length_cons] at hx ⊢
              rw [q_cons] at h
              split at h
              · cases h; omega
              split at h
              · cases h
              split at h
              · have := ih x _ _ _ (by omega) h; simp at this; omega
              cases x with
              | nil => cases h
              | cons d x =>
                simp only [List.length_cons] at hx ⊢
                dsimp only at h
                split at h
                · have := ih x _ _ _ (by omega) h; simp at this; omega
                split at h
                · have := ih x _ _ _ (by omega) h; simp at this; omega
                split at h
                · match x, h, hx with
                  | y :: z :: x, h, hx =>
                    simp only [List.length_cons] at hx ⊢
                    dsimp only at h
                    split at h
                    · cases h
                    · have := ih x _ _ _ (by omega) h; simp at this; omega
                  | [_], h, _ => cases h
                  | [], h, _ => cases h
                · cases h
        cases e : quotedG [] (s.drop 1) with
        | none => rw [quotedN, e] at hq; exact absurd (.inl rfl) hq
        | some y =>
          obtain ⟨b, r⟩ := y
          have h8 := this _ _ _ _ _ (Nat.le_refl _) e
          rw [quotedS, quotedN, e]; dsimp only
          rw [List.length_drop] at h8; simp at h8; omega
  · exfalso
    have g1 : isK (s.getD 0 0) ≠ 1 := fun h => h1 ((isK_1 _).1 h)
    have g2 : isK (s.getD 0 0) ≠ 2 := fun h => h2 ((isK_2 _).1 h)
    have g3 : isK (s.getD 0 0) ≠ 5 := fun h => h3 (cls5 _ h).2.2
    have g4 : isK (s.getD 0 0) ≠ 3 := fun h => by
      have := (cls3 _ (.inl h)).2.2.2.2.2.2.2
      exact h6 this
    rw [o_0 g1 g2 g3 g4 (fun h => h6 (.inr h)) h7 h4 (by simpa using h5)] at he
    exact absurd he (by decide)

def sumT (M : List Tk) : Nat := (M.map fun t => t.text.length).sum
/-- what was read: each may be, they stand where they say, one behind the other -/
theorem lexS_sound (n : Nat) : ∀ (s : List UInt8) (a : Nat) (acc : List Tk), s.length ≤ n → (lexS s a acc).2.2 = 0 →
    ∃ M : List Tk, (lexS s a acc).1 = acc ++ M ∧ (lexS s a acc).2.1 = 0 ∧ (∀ t ∈ M, rightF t = true ∧ (a : Int) ≤ t.pos ∧ t.pos < ((a + s.length : Nat) : Int)) ∧ M.Pairwise (fun x y => x.pos < y.pos) ∧ sumT M ≤ s.length ∧ M.length ≤ s.length := by
  induction n with
  | zero =>
    intro s a acc hs he
    cases s with
    | nil => exact ⟨[], by rw [List.append_nil]; rfl, rfl, fun t ht => by simp at ht, .nil, Nat.le_refl _, Nat.le_refl _⟩
    | cons c s => simp at hs
  | succ n ih =>
    intro s a acc hs he
    cases s with
    | nil => exact ⟨[], by rw [List.append_nil]; rfl, rfl, fun t ht => by simp at ht, .nil, Nat.le_refl _, Nat.le_refl _⟩
    | cons c r =>
      simp only [List.length_cons] at hs
      rw [lexS_cons] at he ⊢
      split at he
      · rename_i h1; rw [if_pos h1]
        obtain ⟨M, e1, e2, e3, e4, e5, e6⟩ := ih r (a + 1) acc (by omega) he
        exact ⟨M, e1, e2, fun t ht => by obtain ⟨f1, f2, f3⟩ := e3 t ht; rw [List.length_cons]; exact ⟨f1, by omega, by omega⟩, e4, by rw [List.length_cons]; omega, by rw [List.length_cons]; omega⟩
      rename_i h1; rw [if_neg h1]
      split at he
      · rename_i h2; rw [if_pos h2]
        have hk := spanF_le isBound (c :: r)
        have hk1 := bound_pos (r := r) h2
        rw [List.length_cons] at hk
        have hd : ((c :: r).drop (spanF isBound (c :: r))).length = r.length + 1 - spanF isBound (c :: r) := by rw [List.length_drop, List.length_cons]
        obtain ⟨M, e1, e2, e3, e4, e5, e6⟩ := ih _ _ acc (by omega) he
        exact ⟨M, e1, e2, fun t ht => by obtain ⟨f1, f2, f3⟩ := e3 t ht; rw [List.length_cons]; exact ⟨f1, by omega, by omega⟩, e4, by rw [List.length_cons]; omega, by rw [List.length_cons]; omega⟩
      rename_i h2; rw [if_neg h2]
      split at he
      · rename_i h3; exact absurd he h3
      rename_i h3; rw [if_neg h3]
      split at he
      · exact absurd he (show ¬ (33 : Int) = 0 by decide)
      rename_i h4; rw [if_neg h4]
      have h3 := Decidable.not_not.1 h3
      have hl := one_len (s := c :: r) (by simp) h3
      obtain ⟨hr, ht⟩ := one_right (s := c :: r) (by simp) h3 a
      rw [List.length_cons] at hl
      have hd : ((c :: r).drop (oneF (c :: r)).2.1.toNat).length = r.length + 1 - (oneF (c :: r)).2.1.toNat := by rw [List.length_drop, List.length_cons]
      obtain ⟨M, e1, e2, e3, e4, e5, e6⟩ := ih _ _ (acc ++ [at_ (oneF (c :: r)).1 a]) (by omega) he
      have ht2 : (at_ (oneF (c :: r)).1 a).text.length = (oneF (c :: r)).1.text.length := rfl
      refine ⟨at_ (oneF (c :: r)).1 a :: M, by rw [e1, List.append_assoc]; rfl, e2, fun t htm => ?_, List.pairwise_cons.2 ⟨fun y hy => ?_, e4⟩, ?_, ?_⟩
      · rw [List.length_cons]
        rcases List.mem_cons.1 htm with rfl | htm
        · exact ⟨hr, by show (a : Int) ≤ (a : Int); omega, by show (a : Int) < _; omega⟩
        · obtain ⟨f1, f2, f3⟩ := e3 t htm
          exact ⟨f1, by omega, by omega⟩
      · obtain ⟨_, f2, _⟩ := e3 y hy
        show (a : Int) < y.pos; omega
      · simp only [sumT, List.map_cons, List.sum_cons] at e5 ⊢
        rw [List.length_cons]; omega
      · rw [List.length_cons, List.length_cons]; omega
theorem lexS_bad (n : Nat) : ∀ (s : List UInt8) (a : Nat) (acc : List Tk), s.length ≤ n → (lexS s a acc).2.2 ≠ 0 → (lexS s a acc).1 = [] ∧ (a : Int) ≤ (lexS s a acc).2.1 := by
  induction n with
  | zero =>
    intro s a acc hs he
    cases s with
    | nil => exact absurd rfl he
    | cons c s => simp at hs
  | succ n ih =>
    intro s a acc hs he
    cases s with
    | nil => exact absurd rfl he
    | cons c r =>
      simp only [List.length_cons] at hs
      rw [lexS_cons] at he ⊢
      split at he
      · rename_i h1; rw [if_pos h1]
        have := ih r (a + 1) acc (by omega) he
        exact ⟨this.1, by omega⟩
      rename_i h1; rw [if_neg h1]
      split at he
      · rename_i h2; rw [if_pos h2]
        have hk1 := bound_pos (r := r) h2
        have := ih _ _ acc (by rw [List.length_drop, List.length_cons]; omega) he
        exact ⟨this.1, by omega⟩
      rename_i h2; rw [if_neg h2]
      split at he
      · rename_i h3; rw [if_pos h3]; exact ⟨rfl, Int.le_refl _⟩
      rename_i h3; rw [if_neg h3]
      split at he
      · rename_i h4; rw [if_pos h4]; exact ⟨rfl, Int.le_refl _⟩
      rename_i h4; rw [if_neg h4]
      have hl := one_len (s := c :: r) (by simp) (Decidable.not_not.1 h3)
      have := ih _ _ _ (by rw [List.length_drop, List.length_cons]; omega) he
      exact ⟨this.1, by omega⟩
/-- wherever it stands, and behind whatever -/
theorem lexS_shift (n : Nat) : ∀ (s : List UInt8) (a b : Nat) (acc acc' : List Tk), s.length ≤ n → acc.length + s.length < 4000 → acc'.length + s.length < 4000 →
    (lexS s a acc).2.2 = (lexS s b acc').2.2 ∧ ((lexS s a acc).2.2 = 0 → ∃ M M' : List Tk, (lexS s a acc).1 = acc ++ M ∧ (lexS s b acc').1 = acc' ++ M' ∧ M.map stp = M'.map stp) := by
  induction n with
  | zero =>
    intro s a b acc acc' hs h1 h2
    cases s with
    | nil => exact ⟨rfl, fun _ => ⟨[], [], by rw [List.append_nil]; rfl, by rw [List.append_nil]; rfl, rfl⟩⟩
    | cons c s => simp at hs
  | succ n ih =>
    intro s a b acc acc' hs hb hb'
    cases s with
    | nil => exact ⟨rfl, fun _ => ⟨[], [], by rw [List.append_nil]; rfl, by rw [List.append_nil]; rfl, rfl⟩⟩
    | cons c r =>
      simp only [List.length_cons] at hs hb hb'
      rw [lexS_cons, lexS_cons]
      by_cases h1 : c = 32 ∨ c = 10
      · rw [if_pos h1, if_pos h1]; exact ih r _ _ _ _ (by omega) (by omega) (by omega)
      rw [if_neg h1, if_neg h1]
      by_cases h2 : c = 35
      · have hk1 := bound_pos (r := r) h2
        rw [if_pos h2, if_pos h2]
        exact ih _ _ _ _ _ (by rw [List.length_drop, List.length_cons]; omega) (by rw [List.length_drop, List.length_cons]; omega) (by rw [List.length_drop, List.length_cons]; omega)
      rw [if_neg h2, if_neg h2]
      by_cases h3 : (oneF (c :: r)).2.2 ≠ 0
      · rw [if_pos h3, if_pos h3]; exact ⟨rfl, fun h => absurd h h3⟩
      rw [if_neg h3, if_neg h3, if_neg (show ¬ acc.length = 4000 by omega), if_neg (show ¬ acc'.length = 4000 by omega)]
      have hl := one_len (s := c :: r) (by simp) (Decidable.not_not.1 h3)
      obtain ⟨e1, e2⟩ := ih ((c :: r).drop (oneF (c :: r)).2.1.toNat) (a + (oneF (c :: r)).2.1.toNat) (b + (oneF (c :: r)).2.1.toNat) (acc ++ [at_ (oneF (c :: r)).1 a]) (acc' ++ [at_ (oneF (c :: r)).1 b]) (by rw [List.length_drop, List.length_cons]; omega) (by rw [List.length_drop, List.length_cons, List.length_append, List.length_singleton]; omega) (by rw [List.length_drop, List.length_cons, List.length_append, List.length_singleton]; omega)
      refine ⟨e1, fun h => ?_⟩
      obtain ⟨M, M', f1, f2, f3⟩ := e2 h
      exact ⟨at_ (oneF (c :: r)).1 a :: M, at_ (oneF (c :: r)).1 b :: M', by rw [f1, List.append_assoc]; rfl, by rw [f2, List.append_assoc]; rfl, by rw [List.map_cons, List.map_cons, f3]; rfl⟩

theorem word_len2 (t : Tk) (h : rightF t = true) : (wordF t).length ≤ 4 * t.text.length + 21 := by
  rw [wordF, if_pos h]
  split
  · have := shw_len (W t.num) (by have := W_bd t.num; omega); omega
  split
  · have := flat_len t.text; simp only [quoteF, List.length_cons, List.length_append, List.length_nil]; omega
  · omega
theorem show_len {L : List Tk} (h : showO L = true) : (showS L).length ≤ 4 * sumT L + 22 * L.length := by
  rw [showS, if_pos h]
  rw [showO, List.all_eq_true] at h
  cases L with
  | nil => simp [Lib.join, List.intercalate]
  | cons t M =>
    have h0 := word_len2 t (h t (by simp))
    have ih : ∀ (M : List Tk), (∀ t ∈ M, rightF t = true) → (Lib.joinTail [32] (M.map wordF)).length ≤ 4 * sumT M + 22 * M.length := by
      intro M hM
      induction M with
      | nil => simp [Lib.joinTail]
      | cons u M ih =>
        have h1 := word_len2 u (hM u (by simp))
        have h2 := ih fun t ht => hM t (by simp [ht])
        simp only [Lib.joinTail, List.map_cons, List.flatten_cons, List.length_append, List.length_cons, List.length_nil, sumT, List.sum_cons] at h2 ⊢
        omega
    have := ih M fun t ht => h t (by simp [ht])
    rw [List.map_cons, Lib.join_cons, List.length_append]
    simp only [sumT, List.map_cons, List.sum_cons, List.length_cons] at this ⊢
    omega
theorem word_stp {t u : Tk} (h : stp t = stp u) (ht : rightF t = true) (hu : rightF u = true) : wordF t = wordF u := by
  simp only [stp, Prod.mk.injEq] at h
  obtain ⟨h1, h2, h3⟩ := h
  rw [wordF, wordF, if_pos ht, if_pos hu, h1, h2, h3]
theorem words_stp : ∀ {L M : List Tk}, L.map stp = M.map stp → (∀ t ∈ L, rightF t = true) → (∀ t ∈ M, rightF t = true) → L.map wordF = M.map wordF
  | [], [], _, _, _ => rfl
  | t :: L, u :: M, h, hl, hm => by
    simp only [List.map_cons, List.cons.injEq] at h ⊢
    exact ⟨word_stp h.1 (hl t (by simp)) (hm u (by simp)), words_stp h.2 (fun t ht => hl t (by simp [ht])) (fun t ht => hm t (by simp [ht]))⟩
  | [], _ :: _, h, _, _ => by simp at h
  | _ :: _, [], h, _, _ => by simp at h
theorem sum_mem {L : List Tk} {t : Tk} (h : t ∈ L) : t.text.length ≤ sumT L := by
  induction L with
  | nil => simp at h
  | cons u L ih =>
    simp only [sumT, List.map_cons, List.sum_cons] at ih ⊢
    rcases List.mem_cons.1 h with rfl | h
    · omega
    · have := ih h; omega
theorem sum_stp : ∀ {L M : List Tk}, L.map stp = M.map stp → sumT L = sumT M ∧ L.length = M.length
  | [], [], _ => ⟨rfl, rfl⟩
  | t :: L, u :: M, h => by
    simp only [List.map_cons, List.cons.injEq, stp, Prod.mk.injEq] at h
    obtain ⟨e1, e2⟩ := sum_stp (L := L) (M := M) h.2
    simp only [sumT, List.map_cons, List.sum_cons, List.length_cons] at e1 ⊢
    rw [h.1.2.1, e1, e2]; exact ⟨rfl, rfl⟩
  | [], _ :: _, h => by simp at h
  | _ :: _, [], h => by simp at h
theorem quoteC_ok (c : UInt8) : ∀ d ∈ quoteC c, 32 ≤ d.toNat ∧ d.toNat ≤ 126 := by
  have : ∀ c, (quoteC c).all (fun d => decide (32 ≤ d.toNat) && decide (d.toNat ≤ 126)) = true := u8_all (by decide +kernel)
  intro d hd
  have := List.all_eq_true.1 (this c) d hd
  simpa using this
theorem quoteF_ok (s : List UInt8) : ∀ d ∈ quoteF s, 32 ≤ d.toNat ∧ d.toNat ≤ 126 := by
  intro d hd
  simp only [quoteF, List.mem_cons, List.mem_append, List.mem_flatMap, List.not_mem_nil, or_false] at hd
  rcases hd with rfl | ⟨c, _, hd⟩ | rfl
  · decide
  · exact quoteC_ok c d hd
  · decide
end Go.Proofs.YtbgomheagkcmaaaDoor
/- The token statements: the walks of Shows, Again, Joins, Quotes. -/
namespace Go.Proofs.YtbgomheagkcmaaaDoor
open Go.Sx Go.RowKit Go.Lib

attribute [local irreducible] hasBody Program.underlying Ylds astep alex alexE alexD awp PCall FCall RCall MCall QCall athen ablock ajump rpost fpost mpost rpostC

theorem own_fok (A : List Tk) (hA : A.length ≤ 1000000) : FCall Tryd.prog 16 [toks A] A.length 37 4 (A.map Tk.av) := by
  refine fcall_of Tryd.func16 rfl Tryd.ntmps16 Tryd.results16 rfl (sz_map fun _ => rfl) ?_
  intro wb St0
  repeat' first
    | (refine alex_thaw 0 rfl ?_)
    | refine en_n ?_
    | refine awp_seq ?_
    | refine awp_region ?_
    | refine alex_nil ?_
    | refine w0 ?_
    | (apply aLit0 (hd := rfl) (hro := rfl); (with_reducible exact ety_toks); (with_reducible exact es_toks); (with_reducible exact zs_tok); exact rfl)
    | (apply aApp (hd := rfl) (hro := rfl); exact rfl; exact rfl; (first | exact Co_dd rfl | exact Co_bb rfl rfl rfl | exact Co_nn rfl); (first | exact rfl | (simp; done)); exact rfl; exact (by first | with_reducible exact ety_toks | with_reducible exact ety_strs | with_reducible exact ety_u8s); exact (by first | with_reducible exact es_toks | with_reducible exact es_strs | with_reducible exact es_u8s); exact (by first | with_reducible exact zl_tok | with_reducible exact zl_str | with_reducible exact zl_i64 | with_reducible exact zl_u8); exact (by first | with_reducible exact by_toks | with_reducible exact by_strs | with_reducible exact by_u8s); (first | exact sz_map (fun _ => rfl) | exact sz_lit rfl))
    | apply ay (hd := rfl)
    | (apply Y_move_d; exact rfl)
    | (apply Y_assign_nil; exact rfl)
    | (apply Y_assign_buf; exact rfl)
    | refine awp_ret ?_
  · rw [List.length_map]; omega
  · refine fpost_ret ⟨_, rfl, .inr ⟨0, ?_, rfl⟩⟩
    show SV.buf 0 (0 + (A.map Tk.av).length) = .buf 0 A.length
    rw [List.length_map, Nat.zero_add]

set_option maxHeartbeats 4000000 in
theorem Shows_ok (L : List Tk) : PCall Tryd.prog 4 [toks L] (bl true) := by
  by_cases hfew : fewF L = true
  · obtain ⟨hL, ht⟩ := few_spec hfew
    have ht' : ∀ t ∈ L, t.text.length ≤ 1000 := fun t h => by have := ht t h; omega
    have h1 := Show_ok L (by omega) ht'
    have h2 := rShow3_ok L (by omega) ht'
    have hf := few_ok L
    rw [hfew] at hf
    by_cases hs : showO L = true
    · obtain ⟨r1, r2⟩ := show_read hs (by omega)
      have hlen : (showS L).length ≤ 1000000 := by
        have := show_len hs
        have hsum : sumT L ≤ L.length * 300 := by
          clear hfew h1 h2 hf hs r1 r2 ht' this hL
          induction L with
          | nil => simp [sumT]
          | cons t L ih =>
            have h1 := ht t (by simp)
            have h2 := ih fun t h => ht t (by simp [h])
            simp only [sumT, List.map_cons, List.sum_cons, List.length_cons] at h2 ⊢; omega
        omega
      have h3 := Lex_ok (showS L) hlen
      generalize lexF (showS L) = F at r1 r2 h3
      obtain ⟨M, p, e⟩ := F
      obtain ⟨rfl, rfl⟩ : p = 0 ∧ e = 0 := by injection r1 with a b; exact ⟨a, b⟩
      have hml : M.length ≤ 60 := by have := congrArg List.length r2; simp at this; omega
      have hsame : sameF M L = true := decide_eq_true r2
      rw [showE, hs, if_pos rfl] at h1
      rw [hs] at h2
      have h4 := Same_ok M L (by omega) (by omega)
      have h5 := rSame_ok M L (by omega) (by omega)
      rw [hsame] at h4 h5
      refine pcall_of Tryd.func4 rfl Tryd.ntmps4 Tryd.results4 rfl ?_
      intro wb St0
      repeat' first
        | refine en_n ?_
        | refine awp_seq ?_
        | refine awp_region ?_
        | refine alex_nil ?_
        | refine w0 ?_
        | (apply Y_strT; exact rfl; exact rfl; exact rfl)
        | (apply Y_eqlT; exact rfl; exact rfl; exact rfl)
        | (refine Y_call hb_awake awake_ok CoL_nil)
        | (refine Y_call hb_few hf (CoL_d rfl CoL_nil))
        | (refine Y_call hb_own (own_ok L (by omega)) (CoL_d rfl CoL_nil))
        | (refine Y_call hb_own (own_ok M (by omega)) (CoL_d rfl CoL_nil))
        | (refine Y_call hb_Show h1 (CoL_d rfl CoL_nil))
        | (refine Y_call hb_rShow3 h2 (CoL_d rfl CoL_nil))
        | (refine Y_call hb_Lex h3 (CoL_d rfl CoL_nil))
        | (refine Y_call hb_Same h4 (CoL_d rfl (CoL_d rfl CoL_nil)))
        | (refine Y_call hb_rSame h5 (CoL_d rfl (CoL_d rfl CoL_nil)))
        | apply ay (hd := rfl)
        | (apply Y_move_d; exact rfl)
        | (apply Y_assign_d; exact rfl)
        | (apply Y_not; exact rfl)
        | (apply Y_pick_t; exact rfl; exact rfl)
        | (apply Y_pick_f; exact rfl; exact rfl)
        | (apply Y_extract; exact rfl; exact rfl)
        | (apply w1; exact rfl; exact rfl)
        | (apply awp_condF; exact rfl)
        | refine awp_skip ?_
        | refine awp_ret ?_
        | refine rpost_ret ?_
        | (apply res1; exact rfl)
      all_goals rfl
    · have hs : showO L = false := by simpa using hs
      rw [showE, showS, hs, if_neg (by decide), if_neg (by decide)] at h1
      rw [hs] at h2
      refine pcall_of Tryd.func4 rfl Tryd.ntmps4 Tryd.results4 rfl ?_
      intro wb St0
      repeat' first
        | refine en_n ?_
        | refine awp_seq ?_
        | refine awp_region ?_
        | refine alex_nil ?_
        | refine w0 ?_
        | (apply Y_strT; exact rfl; exact rfl; exact rfl)
        | (apply Y_eqlT; exact rfl; exact rfl; exact rfl)
        | (refine Y_call hb_awake awake_ok CoL_nil)
        | (refine Y_call hb_few hf (CoL_d rfl CoL_nil))
        | (refine Y_call hb_own (own_ok L (by omega)) (CoL_d rfl CoL_nil))
        | (refine Y_call hb_Show h1 (CoL_d rfl CoL_nil))
        | (refine Y_call hb_rShow3 h2 (CoL_d rfl CoL_nil))
        | apply ay (hd := rfl)
        | (apply Y_move_d; exact rfl)
        | (apply Y_assign_d; exact rfl)
        | (apply Y_not; exact rfl)
        | (apply Y_pick_t; exact rfl; exact rfl)
        | (apply Y_pick_f; exact rfl; exact rfl)
        | (apply Y_extract; exact rfl; exact rfl)
        | (apply w1; exact rfl; exact rfl)
        | (apply awp_condT; exact rfl)
        | (apply awp_condF; exact rfl)
        | refine awp_skip ?_
        | refine awp_ret ?_
        | refine en_r ?_
        | refine rpost_ret ?_
        | (apply res1; exact rfl)
      all_goals rfl
  · have hfew : fewF L = false := by simpa using hfew
    have hf := few_ok L
    rw [hfew] at hf
    refine pcall_of Tryd.func4 rfl Tryd.ntmps4 Tryd.results4 rfl ?_
    intro wb St0
    repeat' first
      | refine en_n ?_
      | refine awp_seq ?_
      | refine awp_region ?_
      | refine alex_nil ?_
      | refine w0 ?_
      | (refine Y_call hb_awake awake_ok CoL_nil)
      | (refine Y_call hb_few hf (CoL_d rfl CoL_nil))
      | apply ay (hd := rfl)
      | (apply Y_move_d; exact rfl)
      | (apply Y_assign_d; exact rfl)
      | (apply Y_not; exact rfl)
      | (apply Y_pick_f; exact rfl; exact rfl)
      | (apply w1; exact rfl; exact rfl)
      | (apply awp_condT; exact rfl)
      | refine awp_ret ?_
      | refine en_r ?_
      | refine rpost_ret ?_
      | (apply res1; exact rfl)
    all_goals rfl

set_option maxHeartbeats 4000000 in
theorem Again_ok (s : List UInt8) : PCall Tryd.prog 7 [str s] (bl true) := by
  by_cases hs : s.length ≤ 600
  · have h0 := Lex_ok s (by omega)
    by_cases he : (lexF s).2.2 = 0
    · obtain ⟨L, e1, e2, e3, e4, e5, e6⟩ := lexS_sound _ s 0 [] (Nat.le_refl _) he
      rw [List.nil_append] at e1
      change (lexF s).1 = L at e1
      change (lexF s).2.1 = 0 at e2
      rw [e1, e2, he] at h0
      have hright : showO L = true := by rw [showO, List.all_eq_true]; exact fun t ht => (e3 t ht).1
      have ht' : ∀ t ∈ L, t.text.length ≤ 1000 := fun t h => by have := sum_mem h; omega
      have h1 := Show_ok L (by omega) ht'
      rw [showE, hright, if_pos rfl] at h1
      obtain ⟨r1, r2⟩ := show_read hright (by omega)
      have hlen : (showS L).length ≤ 1000000 := by have := show_len hright; omega
      have h3 := Lex_ok (showS L) hlen
      have hsound := lexS_sound _ (showS L) 0 [] (Nat.le_refl _) (show (lexF (showS L)).2.2 = 0 by rw [r1])
      obtain ⟨M, m1, _, m3, _, _, _⟩ := hsound
      rw [List.nil_append] at m1
      change (lexF (showS L)).1 = M at m1
      rw [m1] at r2
      rw [m1, r1] at h3
      obtain ⟨q1, q2⟩ := sum_stp r2
      have hrM : showO M = true := by rw [showO, List.all_eq_true]; exact fun t ht => (m3 t ht).1
      have hM' : ∀ t ∈ M, t.text.length ≤ 1000 := fun t h => by have := sum_mem h; omega
      have h4 := Show_ok M (by omega) hM'
      have hsm : showS M = showS L := by rw [showS, showS, hrM, hright, words_stp r2 (fun t ht => (m3 t ht).1) (fun t ht => (e3 t ht).1)]
      rw [showE, hrM, if_pos rfl, hsm] at h4
      have h5 := rSame_ok L M (by omega) (by omega)
      rw [show sameF L M = true from decide_eq_true r2.symm] at h5
      have hR : ∀ (j : Nat) t, L[j]? = some t → PCall Tryd.prog 20 [t.av] (bl true) := fun j t ht => by
        have := Right_ok t; rwa [(e3 t (List.mem_of_getElem? ht)).1] at this
      have hlt : ∀ (j : Nat) t, L[j]? = some t → ¬ t.pos ≥ (s.length : Int) := fun j t ht => by
        have := (e3 t (List.mem_of_getElem? ht)).2.2; omega
      have hord : ∀ (j k : Nat) t u, L[j]? = some t → L[k]? = some u → j < k → ¬ t.pos ≥ u.pos := fun j k t u ht hu hjk => by
        obtain ⟨hj, rfl⟩ := List.getElem?_eq_some_iff.1 ht
        obtain ⟨hk, rfl⟩ := List.getElem?_eq_some_iff.1 hu
        have := List.pairwise_iff_getElem.1 e4 j k hj hk hjk
        omega
      have hM2 : M.length ≤ 600 := by omega
      clear r1 r2 m1 m3 hrM hM' hsm q1 q2 e1 e2 e3 e4 hright ht' he
      refine pcall_of Tryd.func7 rfl Tryd.ntmps7 Tryd.results7 rfl ?_
      intro wb St0
      repeat' first
        | refine en_n ?_
        | refine awp_seq ?_
        | refine awp_region ?_
        | refine alex_nil ?_
        | refine w0 ?_
        | (apply Y_len_l; exact rfl; with_reducible exact ustr)
        | (apply Y_gtrF; exact rfl; exact rfl; first | assumption | omega)
        | (apply Y_neqF; exact rfl; exact rfl; first | assumption | omega)
        | (refine Y_call hb_awake awake_ok CoL_nil)
        | (refine Y_call hb_Lex h0 (CoL_d rfl CoL_nil))
        | apply ay (hd := rfl)
        | (apply Y_move_d; exact rfl)
        | (apply Y_assign_d; exact rfl)
        | (apply Y_not; exact rfl)
        | (apply Y_pick_f; exact rfl; exact rfl)
        | (apply Y_extract; exact rfl; exact rfl)
        | (apply w1; exact rfl; exact rfl)
        | (apply awp_condF; exact rfl)
        | refine awp_block ?_
        | refine awp_skip ?_
      refine awp_loopF (α := Nat) (fun i => i ≤ L.length) (fun i => [(0, .d (str s)), (3, .d (toks L)), (6, .d (i64 (i : Int)))]) (fun _ => []) (fun i => L.length - i) 0 (Nat.zero_le _)
        (Fits_mk (Le_cons rfl (Le_cons rfl (Le_cons rfl Le_nil))) Pre_nil rfl rfl) ?_
      intro i hi
      repeat' first
        | refine en_n ?_
        | refine awp_seq ?_
        | refine awp_region ?_
        | refine alex_nil ?_
        | refine w0 ?_
        | (apply Y_strT; exact rfl; exact rfl; exact rfl)
        | (apply Y_eqlT; exact rfl; exact rfl; exact rfl)
        | (apply Y_len_l; exact rfl; with_reducible exact ustr)
        | (refine Y_call hb_Right (hR _ _ ‹_›) (CoL_d rfl CoL_nil))
        | (apply Y_geqF; exact rfl; exact rfl; exact hlt _ _ ‹_›)
        | (apply Y_geqF; exact rfl; exact rfl; exact hord (Int.toNat ((i : Int) - 1)) (Int.toNat (i : Int)) _ _ ‹_› ‹_› (by omega))
        | (refine Y_call hb_own (own_ok L (by omega)) (CoL_d rfl CoL_nil))
        | (refine Y_call hb_own (own_ok M (by omega)) (CoL_d rfl CoL_nil))
        | (refine Y_call hb_Show h1 (CoL_d rfl CoL_nil))
        | (refine Y_call hb_Show h4 (CoL_d rfl CoL_nil))
        | (refine Y_call hb_Lex h3 (CoL_d rfl CoL_nil))
        | (refine Y_call hb_rSame h5 (CoL_d rfl (CoL_d rfl CoL_nil)))
        | (apply aJ (hd := rfl); (first | exact Co_dd rfl | exact Co_bb rfl rfl rfl | exact Co_nn rfl); exact rfl; exact (by first | with_reducible exact es_toks | with_reducible exact es_strs | with_reducible exact es_u8s); assumption; omega; exact fun _ => rfl)
        | (apply aI (hd := rfl); (first | exact Co_dd rfl | exact Co_bb rfl rfl rfl | exact Co_nn rfl); exact rfl; exact (by first | with_reducible exact es_toks | with_reducible exact es_strs | with_reducible exact es_u8s); exact fun _ => rfl; rotate_left; intro v hv; rotate_right)
        | apply ay (hd := rfl)
        | (apply Y_move_d; exact rfl)
        | (apply Y_assign_d; exact rfl)
        | (apply Y_field_r; exact rfl; exact (by first | with_reducible exact fo_0 | with_reducible exact fo_1 | with_reducible exact fo_2 | with_reducible exact fo_3))
        | (apply Y_load_r1; exact rfl; exact (by first | with_reducible exact tc_str | with_reducible exact tc_int | with_reducible exact tc_kind | with_reducible exact tc_tok | with_reducible exact tc_u8s | with_reducible exact tc_toks | with_reducible exact tc_strs | with_reducible exact tc_bool | with_reducible exact tc_err | with_reducible exact tc_i64))
        | (apply Y_load_r; exact rfl; exact (by first | with_reducible exact tc_str | with_reducible exact tc_int | with_reducible exact tc_kind | with_reducible exact tc_tok | with_reducible exact tc_u8s | with_reducible exact tc_toks | with_reducible exact tc_strs | with_reducible exact tc_bool | with_reducible exact tc_err | with_reducible exact tc_i64); exact rfl)
        | (apply Y_len_m; exact rfl; exact (by first | with_reducible exact et_toks | with_reducible exact et_strs | with_reducible exact et_u8s))
        | (apply Y_lss; exact rfl; exact rfl)
        | (apply Y_gtr; exact rfl; exact rfl)
        | (apply Y_add; exact rfl; exact rfl)
        | (apply Y_sub; exact rfl; exact rfl)
        | (apply Y_not; exact rfl)
        | (apply Y_pick_t; exact rfl; exact rfl)
        | (apply Y_pick_f; exact rfl; exact rfl)
        | (apply Y_extract; exact rfl; exact rfl)
        | (apply w1; exact rfl; exact rfl)
        | (apply k1 (hd := rfl); exact rfl; exact rfl)
        | (apply gD; exact rfl; exact rfl; (intro hb); rotate_left; (intro hb); rotate_right)
        | (apply awp_condD; exact rfl; (intro hb); rotate_left; (intro hb); rotate_right)
        | (apply awp_condF; exact rfl)
        | refine awp_block ?_
        | refine awp_skip ?_
        | refine awp_ret ?_
        | refine awp_exit ?_
        | refine awp_draw (by kernel_rfl) (by kernel_rfl) ?_
        | refine en_e ?_
        | refine eb_n ?_
        | refine eb_e ?_
        | refine rpost_ret ?_
        | (apply res1; exact rfl)
      all_goals try omega
      · exact ⟨i + 1, by omega, by omega, Fits_mk (Le_cons rfl (Le_cons rfl (Le_cons rfl Le_nil))) Pre_nil rfl rfl⟩
      · exact ⟨i + 1, by omega, by omega, Fits_mk (Le_cons rfl (Le_cons rfl (Le_cons rfl Le_nil))) Pre_nil rfl rfl⟩
      · rfl
    · have hb := lexS_bad _ s 0 [] (Nat.le_refl _) he
      have hb1 : (lexF s).1 = [] := hb.1
      have hnz : (lexF s).2.2 ≠ 0 := he
      generalize lexF s = F at h0 hb1 hnz
      obtain ⟨L, p, e⟩ := F
      obtain rfl : L = [] := hb1
      refine pcall_of Tryd.func7 rfl Tryd.ntmps7 Tryd.results7 rfl ?_
      intro wb St0
      repeat' first
        | refine en_n ?_
        | refine awp_seq ?_
        | refine awp_region ?_
        | refine alex_nil ?_
        | refine w0 ?_
        | (apply Y_neqT; exact rfl; exact rfl; exact hnz)
        | (apply Y_eqlT; exact rfl; exact rfl; exact rfl)
        | (apply Y_len_l; exact rfl; with_reducible exact ustr)
        | (apply Y_gtrF; exact rfl; exact rfl; first | assumption | omega)
        | (refine Y_call hb_awake awake_ok CoL_nil)
        | (refine Y_call hb_Lex h0 (CoL_d rfl CoL_nil))
        | apply ay (hd := rfl)
        | (apply Y_move_d; exact rfl)
        | (apply Y_assign_d; exact rfl)
        | (apply Y_len_m; exact rfl; exact (by first | with_reducible exact et_toks | with_reducible exact et_strs | with_reducible exact et_u8s))
        | (apply Y_not; exact rfl)
        | (apply Y_pick_f; exact rfl; exact rfl)
        | (apply Y_extract; exact rfl; exact rfl)
        | (apply w1; exact rfl; exact rfl)
        | (apply awp_condT; exact rfl)
        | (apply awp_condF; exact rfl)
        | refine awp_skip ?_
        | refine awp_ret ?_
        | refine en_r ?_
        | refine rpost_ret ?_
        | (apply res1; exact rfl)
      all_goals rfl
  · refine pcall_of Tryd.func7 rfl Tryd.ntmps7 Tryd.results7 rfl ?_
    intro wb St0
    repeat' first
      | refine en_n ?_
      | refine awp_seq ?_
      | refine awp_region ?_
      | refine alex_nil ?_
      | refine w0 ?_
      | (apply Y_len_l; exact rfl; with_reducible exact ustr)
      | (apply Y_gtrT; exact rfl; exact rfl; first | assumption | omega)
      | (refine Y_call hb_awake awake_ok CoL_nil)
      | apply ay (hd := rfl)
      | (apply Y_move_d; exact rfl)
      | (apply Y_assign_d; exact rfl)
      | (apply Y_not; exact rfl)
      | (apply Y_pick_f; exact rfl; exact rfl)
      | (apply w1; exact rfl; exact rfl)
      | (apply awp_condT; exact rfl)
      | refine awp_ret ?_
      | refine en_r ?_
      | refine rpost_ret ?_
      | (apply res1; exact rfl)
    all_goals rfl
end Go.Proofs.YtbgomheagkcmaaaDoor
/- The token statements: tokens compared whole; the walks of Joins' last way and of Quotes. -/
namespace Go.Proofs.YtbgomheagkcmaaaDoor
open Go.Sx Go.RowKit Go.Lib

theorem fdTk : (Tryd.prog.fieldsOf 37).toList = [⟨"Kind", 35, 0, false, "", "", 0⟩, ⟨"Text", 9, 1, false, "", "", 8⟩, ⟨"Num", 2, 2, false, "", "", 24⟩, ⟨"At", 3, 3, false, "", "", 32⟩] := by kernel_rfl
def Tk.vs (n : Tk) : List Value := [.int .i64 n.kind, .string ⟨n.text.toArray⟩, .int .i64 n.num, .int .i64 n.pos]
theorem tk_eql (a : Tk) (x y : Operand) (w : World) : ((do eqGuard .eql 37 x y (.agg a.vs.toArray) (.agg a.vs.toArray); binOp .eql 37 (.agg a.vs.toArray) (.agg a.vs.toArray) : Sem Value)).run Tryd.prog w = .ok (.bool true) w := by
  have hS : Tryd.prog.underlying 37 = some (.struct (Tryd.prog.fieldsOf 37)) := by kernel_rfl
  have hp : Tryd.prog.stoodInHeld 37 = false := by kernel_rfl
  have hg : Tryd.prog.eqGuardType Tryd.prog.depth 37 = false := by kernel_rfl
  have u1 : Tryd.prog.underlying 35 = some (.int .i64) := by kernel_rfl
  have u2 : Tryd.prog.underlying 9 = some .string := by kernel_rfl
  have u3 : Tryd.prog.underlying 2 = some (.int .i64) := by kernel_rfl
  have u4 : Tryd.prog.underlying 3 = some (.int .i64) := by kernel_rfl
  have p1 : Tryd.prog.plainKey 35 = true := by kernel_rfl
  have p2 : Tryd.prog.plainKey 9 = true := by kernel_rfl
  have p3 : Tryd.prog.plainKey 2 = true := by kernel_rfl
  have p4 : Tryd.prog.plainKey 3 = true := by kernel_rfl
  have hk : ∀ (n : Tk) (w : World), (part 35 n.vs.toArray 0).run Tryd.prog w = .ok (.int .i64 n.kind) w := fun n w => run_part_plain (w := w) p1 rfl
  have ht : ∀ (n : Tk) (w : World), (part 9 n.vs.toArray 1).run Tryd.prog w = .ok (.string ⟨n.text.toArray⟩) w := fun n w => run_part_plain (w := w) p2 rfl
  have hn : ∀ (n : Tk) (w : World), (part 2 n.vs.toArray 2).run Tryd.prog w = .ok (.int .i64 n.num) w := fun n w => run_part_plain (w := w) p3 rfl
  have hi : ∀ (n : Tk) (w : World), (part 3 n.vs.toArray 3).run Tryd.prog w = .ok (.int .i64 n.pos) w := fun n w => run_part_plain (w := w) p4 rfl
  simp only [Sem.run_bind, run_eqGuard_agg w .eql _ x y _ _ hg, Result.andThen_ok, run_eql_struct]
  rw [show (10000 : Nat) = 9998 + 1 + 1 from rfl, run_equalIn_agg w (9998 + 1) _ _ _ hS hp, fdTk]
  have c1 : ("Kind" ≠ "_") = True := by simp
  have c2 : ("Text" ≠ "_") = True := by simp
  have c3 : ("Num" ≠ "_") = True := by simp
  have c4 : ("At" ≠ "_") = True := by simp
  simp only [Op.eqFields, c1, c2, c3, c4, if_true, hk, Sem.run_bind, Result.andThen_ok, run_equalIn_int _ _ _ _ _ _ _ u1]
  simp [ht, hn, hi, run_equalIn_int _ _ _ _ _ _ _ u3, run_equalIn_int _ _ _ _ _ _ _ u4, run_equalIn_string _ _ _ _ _ u2]
theorem Y_tk_eq {η : List Ob} {σ : Sl} {dst : Option Nat} {ty : TypeId} {pos : String} {after : Array Edge} {gd : Option (Nat × Bool)} {x y : Operand} {yt : TypeId} (a : Tk) (hx : oval σ x = .d a.av) (hy : oval σ y = .d a.av) :
    Ylds Tryd.prog η σ ⟨dst, .binOp .eql 37 x y yt, ty, pos, after, gd⟩ (.d (.val (.bool true))) :=
  Y_binA (us := a.vs) (vs := a.vs) hx hy (tk_eql a x y)

/-- what a written text is read as -/
theorem lexq (s : List UInt8) : lexF (quoteF s) = if s.length > 200 then ([], 0, 32) else ([⟨4, s, 0, 0⟩], 0, 0) := by
  obtain ⟨q1, q2⟩ := quoteF_N s
  have hq : quoteF s = 34 :: (s.flatMap quoteC ++ [34]) := rfl
  have h4 := o_34 (s := quoteF s) rfl
  rw [q1, q2] at h4
  have hnz : ¬ ((quoteF s).length : Int) = 0 := by rw [hq]; simp; omega
  rw [lexF]
  by_cases h : s.length > 200
  · rw [if_pos (.inr h)] at h4
    rw [hq] at h4 ⊢
    rw [lexS_cons, if_neg (by decide), if_neg (by decide), h4, if_pos h]; rfl
  · rw [if_neg (by rintro (g | g); exact hnz g; exact h g)] at h4
    rw [lx_step (by rw [hq]; simp) h4 (by decide), List.drop_length, lexS_nil, if_neg h]; rfl
attribute [local irreducible] hasBody Program.underlying Ylds astep alex alexE alexD awp PCall FCall RCall MCall QCall athen ablock ajump rpost fpost mpost rpostC

theorem quo_len (s : List UInt8) : (quoteF s).length ≤ 2 + 4 * s.length := by
  have := flat_len s; simp only [quoteF, List.length_cons, List.length_append, List.length_nil]; omega
set_option maxHeartbeats 4000000 in
theorem Quotes_ok (s : List UInt8) : PCall Tryd.prog 9 [str s] (bl true) := by
  by_cases hs : s.length ≤ 300
  · have h1 := Quote_ok s (by omega)
    have hl := quo_len s
    have h2 := Lex_ok (quoteF s) (by omega)
    rw [lexq] at h2
    have hq : ∀ i : Nat, i < (quoteF s).length → 32 ≤ ((quoteF s).getD i 0).toNat ∧ ((quoteF s).getD i 0).toNat ≤ 126 := fun i hi => by
      rw [List.getD_eq_getElem?_getD, List.getElem?_eq_getElem hi]; exact quoteF_ok s _ (List.getElem_mem hi)
    by_cases h3 : s.length > 200
    · rw [if_pos h3] at h2
      generalize quoteF s = q at h1 h2 hq hl
      refine pcall_of Tryd.func9 rfl Tryd.ntmps9 Tryd.results9 rfl ?_
      intro wb St0
      repeat' first
        | refine en_n ?_
        | refine awp_seq ?_
        | refine awp_region ?_
        | refine alex_nil ?_
        | refine w0 ?_
        | (apply Y_len_l; exact rfl; with_reducible exact ustr)
        | (apply Y_gtrF; exact rfl; exact rfl; first | assumption | omega)
        | (refine Y_call hb_awake awake_ok CoL_nil)
        | (refine Y_call hb_Quote h1 (CoL_d rfl CoL_nil))
        | (refine Y_call hb_Lex h2 (CoL_d rfl CoL_nil))
        | apply ay (hd := rfl)
        | (apply Y_move_d; exact rfl)
        | (apply Y_assign_d; exact rfl)
        | (apply Y_not; exact rfl)
        | (apply Y_pick_f; exact rfl; exact rfl)
        | (apply Y_extract; exact rfl; exact rfl)
        | (apply w1; exact rfl; exact rfl)
        | (apply awp_condF; exact rfl)
        | refine awp_block ?_
        | refine awp_skip ?_
      refine awp_loopF (α := Nat) (fun i => i ≤ q.length) (fun i => [(0, .d (str s)), (3, .d (str q)), (4, .d (toks [])), (6, .d (i64 32)), (7, .d (i64 (i : Int)))]) (fun _ => []) (fun i => q.length - i) 0 (Nat.zero_le _)
        (Fits_mk (Le_cons rfl (Le_cons rfl (Le_cons rfl (Le_cons rfl (Le_cons rfl Le_nil))))) Pre_nil rfl rfl) ?_
      intro i hi
      have hqi := hq (Int.toNat (i : Int))
      repeat' first
        | refine en_n ?_
        | refine awp_seq ?_
        | refine awp_region ?_
        | refine alex_nil ?_
        | refine w0 ?_
        | (apply Y_eqlT; exact rfl; exact rfl; exact rfl)
        | (apply Y_len_l; exact rfl; with_reducible exact ustr)
        | (apply Y_idx_l; exact rfl; exact rfl; with_reducible exact ustr; (first | assumption | omega))
        | (apply Y_lssF; exact rfl; exact rfl; have := hqi (by omega); omega)
        | (apply Y_gtrF; exact rfl; exact rfl; have := hqi (by omega); omega)
        | (apply Y_gtrT; exact rfl; exact rfl; first | assumption | omega)
        | apply ay (hd := rfl)
        | (apply Y_move_d; exact rfl)
        | (apply Y_assign_d; exact rfl)
        | (apply Y_lss; exact rfl; exact rfl)
        | (apply Y_add; exact rfl; exact rfl)
        | (apply Y_pick_f; exact rfl; exact rfl)
        | (apply w1; exact rfl; exact rfl)
        | (apply awp_condD; exact rfl; (intro hb); rotate_left; (intro hb); rotate_right)
        | (apply awp_condT; exact rfl)
        | (apply awp_condF; exact rfl)
        | refine awp_block ?_
        | refine awp_skip ?_
        | refine awp_ret ?_
        | refine awp_exit ?_
        | refine en_r ?_
        | refine en_e ?_
        | refine eb_n ?_
        | refine eb_e ?_
        | refine rpost_ret ?_
        | (apply res1; exact rfl)
      all_goals try omega
      · exact ⟨i + 1, by omega, by omega, Fits_mk (Le_cons rfl (Le_cons rfl (Le_cons rfl (Le_cons rfl (Le_cons rfl Le_nil))))) Pre_nil rfl rfl⟩
      · rfl
    · rw [if_neg h3] at h2
      generalize quoteF s = q at h1 h2 hq hl
      refine pcall_of Tryd.func9 rfl Tryd.ntmps9 Tryd.results9 rfl ?_
      intro wb St0
      repeat' first
        | refine en_n ?_
        | refine awp_seq ?_
        | refine awp_region ?_
        | refine alex_nil ?_
        | refine w0 ?_
        | (apply Y_len_l; exact rfl; with_reducible exact ustr)
        | (apply Y_gtrF; exact rfl; exact rfl; first | assumption | omega)
        | (refine Y_call hb_awake awake_ok CoL_nil)
        | (refine Y_call hb_Quote h1 (CoL_d rfl CoL_nil))
        | (refine Y_call hb_Lex h2 (CoL_d rfl CoL_nil))
        | apply ay (hd := rfl)
        | (apply Y_move_d; exact rfl)
        | (apply Y_assign_d; exact rfl)
        | (apply Y_not; exact rfl)
        | (apply Y_pick_f; exact rfl; exact rfl)
        | (apply Y_extract; exact rfl; exact rfl)
        | (apply w1; exact rfl; exact rfl)
        | (apply awp_condF; exact rfl)
        | refine awp_block ?_
        | refine awp_skip ?_
      refine awp_loopF (α := Nat) (fun i => i ≤ q.length) (fun i => [(0, .d (str s)), (3, .d (str q)), (4, .d (toks [⟨4, s, 0, 0⟩])), (6, .d (i64 0)), (7, .d (i64 (i : Int)))]) (fun _ => []) (fun i => q.length - i) 0 (Nat.zero_le _)
        (Fits_mk (Le_cons rfl (Le_cons rfl (Le_cons rfl (Le_cons rfl (Le_cons rfl Le_nil))))) Pre_nil rfl rfl) ?_
      intro i hi
      have hqi := hq (Int.toNat (i : Int))
      repeat' first
        | (apply aJ (L := [⟨4, s, 0, 0⟩]) (enc := Tk.av) (hd := rfl); exact Co_dd rfl; exact rfl; (with_reducible exact es_toks); exact rfl; decide; exact fun _ => rfl)
        | refine en_n ?_
        | refine awp_seq ?_
        | refine awp_region ?_
        | refine alex_nil ?_
        | refine w0 ?_
        | (apply Y_eqlT; exact rfl; exact rfl; exact rfl)
        | (apply Y_build2; exact rfl; exact rfl; (with_reducible exact bt_01 _ _); exact rfl)
        | (apply Y_tk_eq ⟨4, s, 0, 0⟩; exact rfl; exact rfl)
        | (apply Y_len_l; exact rfl; with_reducible exact ustr)
        | (apply Y_idx_l; exact rfl; exact rfl; with_reducible exact ustr; (first | assumption | omega))
        | (apply Y_lssF; exact rfl; exact rfl; have := hqi (by omega); omega)
        | (apply Y_gtrF; exact rfl; exact rfl; have := hqi (by omega); omega)
        | (apply Y_gtrF; exact rfl; exact rfl; first | assumption | omega)
        | apply ay (hd := rfl)
        | (apply Y_move_d; exact rfl)
        | (apply Y_assign_d; exact rfl)
        | (apply Y_load_r; exact rfl; exact (by first | with_reducible exact tc_str | with_reducible exact tc_int | with_reducible exact tc_kind | with_reducible exact tc_tok | with_reducible exact tc_u8s | with_reducible exact tc_toks | with_reducible exact tc_strs | with_reducible exact tc_bool | with_reducible exact tc_err | with_reducible exact tc_i64); exact rfl)
        | (apply Y_len_m; exact rfl; exact (by first | with_reducible exact et_toks | with_reducible exact et_strs | with_reducible exact et_u8s))
        | (apply Y_lss; exact rfl; exact rfl)
        | (apply Y_add; exact rfl; exact rfl)
        | (apply Y_pick_t; exact rfl; exact rfl)
        | (apply Y_pick_f; exact rfl; exact rfl)
        | (apply w1; exact rfl; exact rfl)
        | (apply awp_condD; exact rfl; (intro hb); rotate_left; (intro hb); rotate_right)
        | (apply awp_condF; exact rfl)
        | refine awp_block ?_
        | refine awp_skip ?_
        | refine awp_ret ?_
        | refine awp_exit ?_
        | refine en_e ?_
        | refine eb_n ?_
        | refine eb_e ?_
        | refine rpost_ret ?_
        | (apply res1; exact rfl)
      all_goals try omega
      · exact ⟨i + 1, by omega, by omega, Fits_mk (Le_cons rfl (Le_cons rfl (Le_cons rfl (Le_cons rfl (Le_cons rfl Le_nil))))) Pre_nil rfl rfl⟩
      · rfl
  · refine pcall_of Tryd.func9 rfl Tryd.ntmps9 Tryd.results9 rfl ?_
    intro wb St0
    repeat' first
      | refine en_n ?_
      | refine awp_seq ?_
      | refine awp_region ?_
      | refine alex_nil ?_
      | refine w0 ?_
      | (apply Y_len_l; exact rfl; with_reducible exact ustr)
      | (apply Y_gtrT; exact rfl; exact rfl; first | assumption | omega)
      | (refine Y_call hb_awake awake_ok CoL_nil)
      | apply ay (hd := rfl)
      | (apply Y_move_d; exact rfl)
      | (apply Y_assign_d; exact rfl)
      | (apply Y_not; exact rfl)
      | (apply Y_pick_f; exact rfl; exact rfl)
      | (apply w1; exact rfl; exact rfl)
      | (apply awp_condT; exact rfl)
      | refine awp_ret ?_
      | refine en_r ?_
      | refine rpost_ret ?_
      | (apply res1; exact rfl)
    all_goals rfl
end Go.Proofs.YtbgomheagkcmaaaDoor
/- The token statements: the walk of Joins. -/
namespace Go.Proofs.YtbgomheagkcmaaaDoor
open Go.Sx Go.RowKit Go.Lib
attribute [local irreducible] hasBody Program.underlying Ylds astep alex alexE alexD awp PCall FCall RCall MCall QCall athen ablock ajump rpost fpost mpost rpostC

set_option maxHeartbeats 4000000 in
theorem Joins_ok (a b : List UInt8) : PCall Tryd.prog 8 [str a, str b] (bl true) := by
  by_cases hs : a.length ≤ 300 ∧ b.length ≤ 300
  · obtain ⟨ha, hb⟩ := hs
    have h1 := Lex_ok a (by omega)
    have h2 := Lex_ok b (by omega)
    have h3 := Lex_ok (a ++ [10] ++ b) (by simp only [List.length_append, List.length_singleton]; omega)
    have hl : lexF (a ++ [10] ++ b) = if (lexF a).2.2 = 0 then lexS b (0 + a.length + 1) (lexF a).1 else lexF a := by
      rw [List.append_assoc, List.singleton_append]; exact lexS_lf b _ a 0 [] (Nat.le_refl _) (by simp; omega)
    by_cases he : (lexF a).2.2 = 0
    · rw [if_pos he] at hl
      have hla := lexF_len a
      have hlb := lexF_len b
      obtain ⟨s1, s2⟩ := lexS_shift _ b (0 + a.length + 1) 0 (lexF a).1 [] (Nat.le_refl _) (by omega) (by simp; omega)
      change _ = (lexF b).2.2 at s1
      by_cases hf : (lexF b).2.2 = 0
      · obtain ⟨M, M', f1, f2, f3⟩ := s2 (s1.trans hf)
        rw [List.nil_append] at f2
        change (lexF b).1 = M' at f2
        rw [hl, f1, s1, hf] at h3
        rw [f2, hf] at h2
        rw [f2] at hlb
        rw [he] at h1
        generalize (lexF a).1 = L at h1 h3 hla
        have hML : M.length = M'.length := (sum_stp f3).2
        have h4 := rSame_ok (L ++ M) (L ++ M') (by rw [List.length_append]; omega) (by rw [List.length_append]; omega)
        rw [show sameF (L ++ M) (L ++ M') = true by rw [sameF, List.map_append, List.map_append, f3]; exact decide_eq_true rfl, show toks (L ++ M') = .slice (L.map Tk.av ++ M'.map Tk.av) by rw [toks, List.map_append]] at h4
        refine pcall_of Tryd.func8 rfl Tryd.ntmps8 Tryd.results8 rfl ?_
        intro wb St0
        repeat' first
          | refine en_n ?_
          | refine awp_seq ?_
          | refine awp_region ?_
          | refine alex_nil ?_
          | refine w0 ?_
          | (apply Y_eqlT; exact rfl; exact rfl; exact rfl)
          | (apply Y_cat_l; exact rfl; exact rfl; (try simp only [List.length_append, List.length_singleton]); omega)
          | (apply Y_len_l; exact rfl; with_reducible exact ustr)
          | (apply Y_gtrF; exact rfl; exact rfl; first | assumption | omega)
          | (apply Y_neqF; exact rfl; exact rfl; first | assumption | omega)
          | (refine Y_call hb_awake awake_ok CoL_nil)
          | (refine Y_call hb_Lex h1 (CoL_d rfl CoL_nil))
          | (refine Y_call hb_Lex h2 (CoL_d rfl CoL_nil))
          | (refine Y_call hb_Lex h3 (CoL_d rfl CoL_nil))
          | (refine aFCall hb_own (own_fok L (by omega)) (CoL_d rfl CoL_nil) rfl rfl ?_)
          | (apply aApp (id := 0) (n := L.length) (mu := true) (m := M'.length) (xs := L.map Tk.av) (ys := M'.map Tk.av) (hd := rfl) (hro := rfl); exact rfl; exact rfl; exact Co_dd rfl; exact (by simp); exact (by simp); (with_reducible exact ety_toks); (with_reducible exact es_toks); (with_reducible exact zl_tok); (with_reducible exact by_toks); exact sz_map (fun _ => rfl); omega; refine alex_freeze 0 rfl rfl rfl ?_)
          | (refine Y_call hb_rSame h4 (CoL_d rfl (CoL_b rfl rfl (by simp) CoL_nil)))
          | apply ay (hd := rfl)
          | (apply Y_move_d; exact rfl)
          | (apply Y_assign_d; exact rfl)
          | (apply Y_not; exact rfl)
          | (apply Y_pick_t; exact rfl; exact rfl)
          | (apply Y_pick_f; exact rfl; exact rfl)
          | (apply Y_extract; exact rfl; exact rfl)
          | (apply w1; exact rfl; exact rfl)
          | (apply awp_condF; exact rfl)
          | refine awp_skip ?_
          | refine awp_ret ?_
          | refine rpost_ret ?_
          | (apply res1; exact rfl)
        all_goals first | rfl | omega | trace_state
      · have hbad := lexS_bad _ b (0 + a.length + 1) (lexF a).1 (Nat.le_refl _) (by rw [s1]; exact hf)
        rw [hl, hbad.1, s1] at h3
        have hp := hbad.2
        rw [he] at h1
        generalize (lexS b (0 + a.length + 1) (lexF a).1).2.1 = p at h3 hp
        generalize (lexF b).2.2 = e at h2 h3 hf
        refine pcall_of Tryd.func8 rfl Tryd.ntmps8 Tryd.results8 rfl ?_
        intro wb St0
        repeat' first
          | refine en_n ?_
          | refine awp_seq ?_
          | refine awp_region ?_
          | refine alex_nil ?_
          | refine w0 ?_
          | (apply Y_neqT; exact rfl; exact rfl; exact hf)
          | (apply Y_eqlT; exact rfl; exact rfl; exact rfl)
          | (apply Y_cat_l; exact rfl; exact rfl; (try simp only [List.length_append, List.length_singleton]); omega)
          | (apply Y_len_l; exact rfl; with_reducible exact ustr)
          | (apply Y_gtrT; exact rfl; exact rfl; first | assumption | omega)
          | (apply Y_gtrF; exact rfl; exact rfl; first | assumption | omega)
          | (apply Y_neqF; exact rfl; exact rfl; first | assumption | omega)
          | (refine Y_call hb_awake awake_ok CoL_nil)
          | (refine Y_call hb_Lex h1 (CoL_d rfl CoL_nil))
          | (refine Y_call hb_Lex h2 (CoL_d rfl CoL_nil))
          | (refine Y_call hb_Lex h3 (CoL_d rfl CoL_nil))
          | apply ay (hd := rfl)
          | (apply Y_move_d; exact rfl)
          | (apply Y_assign_d; exact rfl)
          | (apply Y_not; exact rfl)
          | (apply Y_pick_t; exact rfl; exact rfl)
          | (apply Y_pick_f; exact rfl; exact rfl)
          | (apply Y_extract; exact rfl; exact rfl)
          | (apply w1; exact rfl; exact rfl)
          | (apply awp_condT; exact rfl)
          | (apply awp_condF; exact rfl)
          | refine awp_skip ?_
          | refine awp_ret ?_
          | refine en_r ?_
          | refine rpost_ret ?_
          | (apply res1; exact rfl)
        all_goals first | rfl | trace_state
    · rw [if_neg he] at hl
      have hbad := lexS_bad _ a 0 [] (Nat.le_refl _) he
      have hz : (lexF a).1 = [] := hbad.1
      rw [hl, hz] at h3
      generalize (lexF a).2.2 = e at h1 h3 he
      refine pcall_of Tryd.func8 rfl Tryd.ntmps8 Tryd.results8 rfl ?_
      intro wb St0
      repeat' first
        | refine en_n ?_
        | refine awp_seq ?_
        | refine awp_region ?_
        | refine alex_nil ?_
        | refine w0 ?_
        | (apply Y_neqT; exact rfl; exact rfl; exact he)
        | (apply Y_eqlT; exact rfl; exact rfl; exact rfl)
        | (apply Y_cat_l; exact rfl; exact rfl; (try simp only [List.length_append, List.length_singleton]); omega)
        | (apply Y_len_l; exact rfl; with_reducible exact ustr)
        | (apply Y_gtrF; exact rfl; exact rfl; first | assumption | omega)
        | (refine Y_call hb_awake awake_ok CoL_nil)
        | (refine Y_call hb_Lex h1 (CoL_d rfl CoL_nil))
        | (refine Y_call hb_Lex h2 (CoL_d rfl CoL_nil))
        | (refine Y_call hb_Lex h3 (CoL_d rfl CoL_nil))
        | apply ay (hd := rfl)
        | (apply Y_move_d; exact rfl)
        | (apply Y_assign_d; exact rfl)
        | (apply Y_len_m; exact rfl; exact (by first | with_reducible exact et_toks | with_reducible exact et_strs | with_reducible exact et_u8s))
        | (apply Y_not; exact rfl)
        | (apply Y_pick_t; exact rfl; exact rfl)
        | (apply Y_pick_f; exact rfl; exact rfl)
        | (apply Y_extract; exact rfl; exact rfl)
        | (apply w1; exact rfl; exact rfl)
        | (apply awp_condT; exact rfl)
        | (apply awp_condF; exact rfl)
        | refine awp_skip ?_
        | refine awp_ret ?_
        | refine en_r ?_
        | refine rpost_ret ?_
        | (apply res1; exact rfl)
      all_goals first | rfl | trace_state
  · refine pcall_of Tryd.func8 rfl Tryd.ntmps8 Tryd.results8 rfl ?_
    intro wb St0
    repeat' first
      | refine en_n ?_
      | refine awp_seq ?_
      | refine awp_region ?_
      | refine alex_nil ?_
      | refine w0 ?_
      | (apply kU (hd := rfl); exact rfl; exact rfl)
      | (apply k0u (hd := rfl); exact rfl; exact rfl)
      | (apply Y_len_l; exact rfl; with_reducible exact ustr)
      | (apply Y_cat_l; exact rfl; exact rfl; omega)
      | (refine Y_call hb_awake awake_ok CoL_nil)
      | apply ay (hd := rfl)
      | (apply Y_move_d; exact rfl)
      | (apply Y_assign_d; exact rfl)
      | (apply Y_gtr; exact rfl; exact rfl)
      | (apply Y_neq; exact rfl; exact rfl)
      | (apply Y_not; exact rfl)
      | (apply Y_pick_t; exact rfl; exact rfl)
      | (apply Y_pick_f; exact rfl; exact rfl)
      | (apply w1; exact rfl; exact rfl)
      | (apply gD; exact rfl; exact rfl; (intro hb); rotate_left; (intro hb); rotate_right)
      | (apply awp_condD; exact rfl; (intro hb); rotate_left; (intro hb); rotate_right)
      | (apply awp_condT; exact rfl)
      | refine awp_skip ?_
      | refine awp_ret ?_
      | refine en_r ?_
      | refine rpost_ret ?_
      | (apply res1; exact rfl)
    all_goals first | rfl | omega | trace_state
end Go.Proofs.YtbgomheagkcmaaaDoor
