/- Texts of this claim, merged: TypL, TypM, TypN, TypO, TypQ, TypR, TypT, TypYC, LexH, TypYE, TypYF, TypYD, NodL, TypZA. -/
import Derived.Test.YtamhkcnpocdfcaaGreatDoorRows
import Derived.ProofKit
import Derived.Deep.Slices
import Derived.Deep.Fields
import Derived.ChangeSame
import Derived.OpenShut
import Derived.LaidMore
import Derived.Lay
import Derived.Stop.Joined
import Derived.Stop.LaidErr
import Derived.Shelf.Vars
import Derived.Lib.LaidTab
import Derived.Test.YtamhkcnpocdfcaaGreatDoorME
/- The statements on types: the walk of show's closure that reads an argument. -/
namespace Go.Proofs.YtamhkcnpocdfcaaGreatDoor
open Go.Sx
theorem Y_idxN {P : Program} {η : List Ob} {σ : Sl} {dst : Option Nat} {ty : TypeId} {pos : String} {after : Array Edge} {gd : Option (Nat × Bool)} {t : TypeId} {p q : Operand} {a : List Nd} {i : Nat} {x : Nd} (hx : a[i]? = some x) (hp : oval σ p = .d (nodes a)) (hq : oval σ q = .d (i64 (i : Int))) (hs : elemSize P t = some 4) :
    Ylds P η σ ⟨dst, .indexAddr t p q, ty, pos, after, gd⟩ (.rptr x.av.flat) :=
  Y_indexC (xs := a.map Nd.av) (Co_dd hp) hq hs (by omega) (by show (a.map Nd.av)[((i : Int)).toNat]? = _; rw [Int.toNat_natCast, List.getElem?_map, hx]; rfl) (fun d hd => by obtain ⟨v, _, rfl⟩ := List.mem_map.1 hd; rfl)
attribute [local irreducible] hasBody Program.underlying Ylds astep alex alexE alexD awp PCall FCall RCall MCall QCall athen ablock ajump rpost fpost mpost rpostC
abbrev shO (L : List Nd) (i : Int) : List Ob := [.bx none none [.d (nodes L)], .bx none none [.d (i64 i)]]
set_option maxHeartbeats 2000000 in
theorem show1_ok (f : FuncId) (p : Nd → Bool) (hbf : hasBody Tryz.prog f = true) (hp : ∀ n, PCall Tryz.prog f [n.av] (bl (p n))) (L : List Nd) (i j : Nat) (y : Nd) (s : List UInt8) (hy : L[i]? = some y) (hs : s.length ≤ 100000000) (_hj : j ≤ 2000000) (hi : i ≤ 2000000)
    (hc : PCall Tryz.prog 27 [nodes L, i64 (i : Int)] (.tup [str s, i64 (j : Int)])) :
    MCall Tryz.prog 52 [.clo f [], .ptr 0 0, .ptr 1 0] (shO L i) (.d (str (if p y then 40 :: s ++ [41] else s))) (shO L j) := by
  refine mcall_of Tryz.func52 rfl Tryz.ntmps52 Tryz.results52 rfl rfl rfl ?_
  intro wb St0 X fx
  cases hpy : p y with
  | true =>
    have hpc := hp y; rw [hpy] at hpc
    repeat' first
      | refine en_n ?_
      | refine awp_seq ?_
      | refine awp_region ?_
      | refine alex_nil ?_
      | refine w0 ?_
      | (apply Y_move_clo; exact rfl)
      | (apply Y_call (hb := hb_show) (hc := hc))
      | (apply Y_pclo (hb := hbf) (hc := hpc); exact rfl)
      | (apply Y_cat_l; exact rfl; exact rfl; simp only [List.length_append, List.length_cons, List.length_nil]; omega)
      | (apply aJ (hd := rfl); (first | exact Co_dd rfl | exact Co_bb rfl rfl rfl | exact Co_nn rfl); exact rfl; exact (by first | with_reducible exact es_binds | with_reducible exact es_nodes | with_reducible exact es_ints | with_reducible exact es_nodess | with_reducible exact es_toks | with_reducible exact es_strs | with_reducible exact es_u8s); assumption; omega; exact fun _ => rfl)
      | (apply aAlloc (hd := rfl) (hro := rfl); exact (by first | with_reducible exact zo_m68 | with_reducible exact zo_f24 | with_reducible exact zo_node | with_reducible exact zon_int | with_reducible exact zo_tok | with_reducible exact zo_int | with_reducible exact zo_i64))
      | apply ay (hd := rfl)
      | (apply Y_move_d; exact rfl)
      | (apply Y_assign_d; exact rfl)
      | (apply Y_load_r; exact rfl; exact (by first | with_reducible exact tc_bind | with_reducible exact tc_m51 | with_reducible exact tc_m68 | with_reducible exact tc_pst | with_reducible exact tc_pf | with_reducible exact tcn_int | with_reducible exact tc_nodes | with_reducible exact tc_node | with_reducible exact tc_ints | with_reducible exact tcn_kind | with_reducible exact tcn_i64 | with_reducible exact tcn_str | with_reducible exact tcn_bool | with_reducible exact tc_str | with_reducible exact tc_int | with_reducible exact tc_kind | with_reducible exact tc_tok | with_reducible exact tc_u8s | with_reducible exact tc_toks | with_reducible exact tc_strs | with_reducible exact tc_bool | with_reducible exact tc_err | with_reducible exact tc_i64); exact rfl)
      | (apply Y_extract; exact rfl; exact rfl)
      | (apply Y_load_p; exact rfl; exact (by first | with_reducible exact tc_bind | with_reducible exact tc_m51 | with_reducible exact tc_m68 | with_reducible exact tc_pst | with_reducible exact tc_pf | with_reducible exact tcn_int | with_reducible exact tc_nodes | with_reducible exact tc_node | with_reducible exact tc_ints | with_reducible exact tcn_kind | with_reducible exact tcn_i64 | with_reducible exact tcn_str | with_reducible exact tcn_bool | with_reducible exact tc_str | with_reducible exact tc_int | with_reducible exact tc_kind | with_reducible exact tc_tok | with_reducible exact tc_u8s | with_reducible exact tc_toks | with_reducible exact tc_strs | with_reducible exact tc_bool | with_reducible exact tc_err | with_reducible exact tc_i64); exact rfl; exact rfl)
      | (apply Y_load_pa; exact rfl; exact (by first | with_reducible exact tc_bind | with_reducible exact tc_m51 | with_reducible exact tc_m68 | with_reducible exact tc_pst | with_reducible exact tc_pf | with_reducible exact tcn_int | with_reducible exact tc_nodes | with_reducible exact tc_node | with_reducible exact tc_ints | with_reducible exact tcn_kind | with_reducible exact tcn_i64 | with_reducible exact tcn_str | with_reducible exact tcn_bool | with_reducible exact tc_str | with_reducible exact tc_int | with_reducible exact tc_kind | with_reducible exact tc_tok | with_reducible exact tc_u8s | with_reducible exact tc_toks | with_reducible exact tc_strs | with_reducible exact tc_bool | with_reducible exact tc_err | with_reducible exact tc_i64); exact rfl; exact rfl; exact rfl)
      | (refine w0' ?_)
      | (apply aStore; exact rfl; exact rfl; exact rfl; exact (by first | with_reducible exact tc_bind | with_reducible exact tc_m51 | with_reducible exact tc_m68 | with_reducible exact tc_pst | with_reducible exact tc_pf | with_reducible exact tcn_int | with_reducible exact tc_nodes | with_reducible exact tc_node | with_reducible exact tc_ints | with_reducible exact tcn_kind | with_reducible exact tcn_i64 | with_reducible exact tcn_str | with_reducible exact tcn_bool | with_reducible exact tc_str | with_reducible exact tc_int | with_reducible exact tc_kind | with_reducible exact tc_tok | with_reducible exact tc_u8s | with_reducible exact tc_toks | with_reducible exact tc_strs | with_reducible exact tc_bool | with_reducible exact tc_err | with_reducible exact tc_i64); exact rfl; exact rfl; exact rfl; exact rfl)
      | (apply awp_condT; exact rfl)
      | refine awp_ret ?_
      | refine en_r ?_
      | exact CoL_nil
      | refine CoL_d rfl ?_
    exact mpost_ret (Fits_mk (Le_d rfl (by simp) Le_nil) (Pre_cons rfl rfl (Pre_cons rfl rfl Pre_nil)) rfl rfl)
  | false =>
    have hpc := hp y; rw [hpy] at hpc
    repeat' first
      | refine en_n ?_
      | refine awp_seq ?_
      | refine awp_region ?_
      | refine alex_nil ?_
      | refine w0 ?_
      | (apply Y_move_clo; exact rfl)
      | (apply Y_call (hb := hb_show) (hc := hc))
      | (apply Y_pclo (hb := hbf) (hc := hpc); exact rfl)
      | (apply aJ (hd := rfl); (first | exact Co_dd rfl | exact Co_bb rfl rfl rfl | exact Co_nn rfl); exact rfl; exact (by first | with_reducible exact es_binds | with_reducible exact es_nodes | with_reducible exact es_ints | with_reducible exact es_nodess | with_reducible exact es_toks | with_reducible exact es_strs | with_reducible exact es_u8s); assumption; omega; exact fun _ => rfl)
      | (apply aAlloc (hd := rfl) (hro := rfl); exact (by first | with_reducible exact zo_m68 | with_reducible exact zo_f24 | with_reducible exact zo_node | with_reducible exact zon_int | with_reducible exact zo_tok | with_reducible exact zo_int | with_reducible exact zo_i64))
      | apply ay (hd := rfl)
      | (apply Y_move_d; exact rfl)
      | (apply Y_assign_d; exact rfl)
      | (apply Y_load_r; exact rfl; exact (by first | with_reducible exact tc_bind | with_reducible exact tc_m51 | with_reducible exact tc_m68 | with_reducible exact tc_pst | with_reducible exact tc_pf | with_reducible exact tcn_int | with_reducible exact tc_nodes | with_reducible exact tc_node | with_reducible exact tc_ints | with_reducible exact tcn_kind | with_reducible exact tcn_i64 | with_reducible exact tcn_str | with_reducible exact tcn_bool | with_reducible exact tc_str | with_reducible exact tc_int | with_reducible exact tc_kind | with_reducible exact tc_tok | with_reducible exact tc_u8s | with_reducible exact tc_toks | with_reducible exact tc_strs | with_reducible exact tc_bool | with_reducible exact tc_err | with_reducible exact tc_i64); exact rfl)
      | (apply Y_extract; exact rfl; exact rfl)
      | (apply Y_load_p; exact rfl; exact (by first | with_reducible exact tc_bind | with_reducible exact tc_m51 | with_reducible exact tc_m68 | with_reducible exact tc_pst | with_reducible exact tc_pf | with_reducible exact tcn_int | with_reducible exact tc_nodes | with_reducible exact tc_node | with_reducible exact tc_ints | with_reducible exact tcn_kind | with_reducible exact tcn_i64 | with_reducible exact tcn_str | with_reducible exact tcn_bool | with_reducible exact tc_str | with_reducible exact tc_int | with_reducible exact tc_kind | with_reducible exact tc_tok | with_reducible exact tc_u8s | with_reducible exact tc_toks | with_reducible exact tc_strs | with_reducible exact tc_bool | with_reducible exact tc_err | with_reducible exact tc_i64); exact rfl; exact rfl)
      | (apply Y_load_pa; exact rfl; exact (by first | with_reducible exact tc_bind | with_reducible exact tc_m51 | with_reducible exact tc_m68 | with_reducible exact tc_pst | with_reducible exact tc_pf | with_reducible exact tcn_int | with_reducible exact tc_nodes | with_reducible exact tc_node | with_reducible exact tc_ints | with_reducible exact tcn_kind | with_reducible exact tcn_i64 | with_reducible exact tcn_str | with_reducible exact tcn_bool | with_reducible exact tc_str | with_reducible exact tc_int | with_reducible exact tc_kind | with_reducible exact tc_tok | with_reducible exact tc_u8s | with_reducible exact tc_toks | with_reducible exact tc_strs | with_reducible exact tc_bool | with_reducible exact tc_err | with_reducible exact tc_i64); exact rfl; exact rfl; exact rfl)
      | (refine w0' ?_)
      | (apply aStore; exact rfl; exact rfl; exact rfl; exact (by first | with_reducible exact tc_bind | with_reducible exact tc_m51 | with_reducible exact tc_m68 | with_reducible exact tc_pst | with_reducible exact tc_pf | with_reducible exact tcn_int | with_reducible exact tc_nodes | with_reducible exact tc_node | with_reducible exact tc_ints | with_reducible exact tcn_kind | with_reducible exact tcn_i64 | with_reducible exact tcn_str | with_reducible exact tcn_bool | with_reducible exact tc_str | with_reducible exact tc_int | with_reducible exact tc_kind | with_reducible exact tc_tok | with_reducible exact tc_u8s | with_reducible exact tc_toks | with_reducible exact tc_strs | with_reducible exact tc_bool | with_reducible exact tc_err | with_reducible exact tc_i64); exact rfl; exact rfl; exact rfl; exact rfl)
      | (apply awp_condF; exact rfl)
      | refine awp_skip ?_
      | refine awp_ret ?_
      | exact CoL_nil
      | refine CoL_d rfl ?_
    exact mpost_ret (Fits_mk (Le_d rfl (by simp) Le_nil) (Pre_cons rfl rfl (Pre_cons rfl rfl Pre_nil)) rfl rfl)
end Go.Proofs.YtamhkcnpocdfcaaGreatDoor
/- The statements on types: show, plainly: what it takes. -/
namespace Go.Proofs.YtamhkcnpocdfcaaGreatDoor
open Go.Sx
theorem argF_some {f : Nat → Option (List UInt8 × Nat)} {L : List Nd} {p : Nd → Bool} {i j : Nat} {u : List UInt8} (h : argF f L p i = some (u, j)) : ∃ y s, L[i]? = some y ∧ f i = some (s, j) ∧ u = (if p y then 40 :: s ++ [41] else s) := by
  unfold argF at h
  split at h
  · rename_i y s k hy hs
    injection h with h; injection h with h1 h2; subst h1; subst h2
    exact ⟨y, s, hy, hs, rfl⟩
  · cases h
theorem showF_le (L : List Nd) : ∀ (n i : Nat) (u : List UInt8) (j : Nat), showF n L i = some (u, j) → i < j ∧ j ≤ L.length
  | 0, _, _, _, h => by cases h
  | n + 1, i, u, j, h => by
    have ih := showF_le L n
    unfold showF at h
    split at h
    · cases h
    · rename_i x hx
      have hi := (List.getElem?_eq_some_iff.1 hx).1
      split at h
      · injection h with h; injection h with h1 h2; omega
      · split at h
        · split at h
          · rename_i u1 j1 h1
            split at h
            · rename_i u2 j2 h2
              injection h with h; injection h with h3 h4; subst h4
              obtain ⟨_, _, _, q1, _⟩ := argF_some h1
              obtain ⟨_, _, _, q2, _⟩ := argF_some h2
              have := ih _ _ _ q1; have := ih _ _ _ q2; omega
            · cases h
          · cases h
        · have := foldO_inv (J := fun p : List UInt8 × Nat => i < p.2 ∧ p.2 ≤ L.length) (fun b x c hb hc => by
            split at hc
            · rename_i u1 j1 h1
              injection hc with hc; subst hc
              obtain ⟨_, _, _, q1, _⟩ := argF_some h1
              have := ih _ _ _ q1
              simp only
              omega
            · cases hc) ⟨by simp, by simp only; omega⟩ h
          exact this
end Go.Proofs.YtamhkcnpocdfcaaGreatDoor
/- The statements on types: the walk of show. -/
namespace Go.Proofs.YtamhkcnpocdfcaaGreatDoor
open Go.Sx
theorem Y_eqsF {P : Program} {η : List Ob} {σ : Sl} {dst : Option Nat} {ty : TypeId} {pos : String} {after : Array Edge} {gd : Option (Nat × Bool)} {t yt : TypeId} {x y : Operand} {u v : List UInt8} (h : u ≠ v) (hx : oval σ x = .d (str u)) (hy : oval σ y = .d (str v)) :
    Ylds P η σ ⟨dst, .binOp .eql t x y yt, ty, pos, after, gd⟩ (.d (.val (.bool false))) := by
  have := Y_eqs (P := P) (η := η) (σ := σ) (dst := dst) (ty := ty) (pos := pos) (after := after) (gd := gd) (t := t) (yt := yt) hx hy
  rwa [decide_eq_false h] at this
theorem arg_len {s u : List UInt8} {b : Bool} (h : u = (if b then 40 :: s ++ [41] else s)) : s.length ≤ u.length := by
  subst h; cases b <;> simp; omega
attribute [local irreducible] hasBody Program.underlying Ylds astep alex alexE alexD awp PCall FCall RCall MCall QCall athen ablock ajump rpost fpost mpost rpostC
set_option maxHeartbeats 4000000 in
theorem show_ok (L : List Nd) (hL : L.length ≤ 1000000) (hnum : ∀ x ∈ L, 0 ≤ x.num ∧ x.num ≤ 9223372036854775807) : ∀ (n i : Nat) (u : List UInt8) (j : Nat), showF n L i = some (u, j) → u.length ≤ 1000000 →
    PCall Tryz.prog 27 [nodes L, i64 (i : Int)] (.tup [str u, i64 (j : Int)])
  | 0, _, _, _, h, _ => by cases h
  | n + 1, i, u, j, h, hu => by
    have ih := show_ok L hL hnum n
    have hle := showF_le L (n + 1) i u j h
    unfold showF at h
    split at h
    · cases h
    · rename_i x hx
      have hi := (List.getElem?_eq_some_iff.1 hx).1
      have hxn := hnum x (List.mem_of_getElem? hx)
      refine pcall_ofC Tryz.func27 rfl Tryz.ntmps27 Tryz.results27 rfl ?_
      intro wb St0
      split at h
      · rename_i hk
        injection h with h; injection h with h1 h2; subst h1; subst h2
        repeat' first
          | refine en_n ?_
          | refine awp_seq ?_
          | refine awp_region ?_
          | refine alex_nil ?_
          | refine w0 ?_
          | (apply Y_eqlT; exact rfl; exact rfl; first | assumption | omega)
          | (refine rpostC_ret ?_)
          | (refine resC_tup ?_)
          | exact RV_nil
          | (refine RV_d rfl ?_ ?_)
          | (apply Y_call (hb := hb_FormatInt) (hc := FormatInt_ok x.num (by omega) (by omega)); exact CoL_d rfl (CoL_d rfl CoL_nil))
          | (apply Y_cat_l; exact rfl; exact rfl; simp only [List.length_cons, List.length_nil] at hu ⊢; omega)
          | (apply aJ (hd := rfl); (first | exact Co_dd rfl | exact Co_bb rfl rfl rfl | exact Co_nn rfl); exact rfl; exact (by first | with_reducible exact es_binds | with_reducible exact es_nodes | with_reducible exact es_ints | with_reducible exact es_nodess | with_reducible exact es_toks | with_reducible exact es_strs | with_reducible exact es_u8s); assumption; omega; exact fun _ => rfl)
          | (apply aBox (hd := rfl) (hro := rfl); exact rfl; exact rfl)
          | (apply aAlloc (hd := rfl) (hro := rfl); exact (by first | with_reducible exact zo_m68 | with_reducible exact zo_f24 | with_reducible exact zo_node | with_reducible exact zon_int | with_reducible exact zo_tok | with_reducible exact zo_int | with_reducible exact zo_i64))
          | apply ay (hd := rfl)
          | (apply Y_assign_d; exact rfl)
          | (apply Y_load_r; exact rfl; exact (by first | with_reducible exact tc_bind | with_reducible exact tc_m51 | with_reducible exact tc_m68 | with_reducible exact tc_pst | with_reducible exact tc_pf | with_reducible exact tcn_int | with_reducible exact tc_nodes | with_reducible exact tc_node | with_reducible exact tc_ints | with_reducible exact tcn_kind | with_reducible exact tcn_i64 | with_reducible exact tcn_str | with_reducible exact tcn_bool | with_reducible exact tc_str | with_reducible exact tc_int | with_reducible exact tc_kind | with_reducible exact tc_tok | with_reducible exact tc_u8s | with_reducible exact tc_toks | with_reducible exact tc_strs | with_reducible exact tc_bool | with_reducible exact tc_err | with_reducible exact tc_i64); exact rfl)
          | (apply Y_add; exact rfl; exact rfl)
          | (apply Y_field_p; exact rfl; exact (by first | with_reducible exact fb_0 | with_reducible exact fb_1 | with_reducible exact fs_0 | with_reducible exact fs_1 | with_reducible exact fn_0 | with_reducible exact fn_1 | with_reducible exact fn_2 | with_reducible exact fn_3 | with_reducible exact fo_0 | with_reducible exact fo_1 | with_reducible exact fo_2 | with_reducible exact fo_3))
          | (apply Y_load_p; exact rfl; exact (by first | with_reducible exact tc_bind | with_reducible exact tc_m51 | with_reducible exact tc_m68 | with_reducible exact tc_pst | with_reducible exact tc_pf | with_reducible exact tcn_int | with_reducible exact tc_nodes | with_reducible exact tc_node | with_reducible exact tc_ints | with_reducible exact tcn_kind | with_reducible exact tcn_i64 | with_reducible exact tcn_str | with_reducible exact tcn_bool | with_reducible exact tc_str | with_reducible exact tc_int | with_reducible exact tc_kind | with_reducible exact tc_tok | with_reducible exact tc_u8s | with_reducible exact tc_toks | with_reducible exact tc_strs | with_reducible exact tc_bool | with_reducible exact tc_err | with_reducible exact tc_i64); exact rfl; exact rfl)
          | (refine w0' ?_)
          | (apply aStore; exact rfl; exact rfl; exact rfl; exact (by first | with_reducible exact tc_bind | with_reducible exact tc_m51 | with_reducible exact tc_m68 | with_reducible exact tc_pst | with_reducible exact tc_pf | with_reducible exact tcn_int | with_reducible exact tc_nodes | with_reducible exact tc_node | with_reducible exact tc_ints | with_reducible exact tcn_kind | with_reducible exact tcn_i64 | with_reducible exact tcn_str | with_reducible exact tcn_bool | with_reducible exact tc_str | with_reducible exact tc_int | with_reducible exact tc_kind | with_reducible exact tc_tok | with_reducible exact tc_u8s | with_reducible exact tc_toks | with_reducible exact tc_strs | with_reducible exact tc_bool | with_reducible exact tc_err | with_reducible exact tc_i64); exact rfl; exact rfl; exact rfl; exact rfl)
          | (apply awp_condT; exact rfl)
          | refine awp_ret ?_
          | refine awp_draw (by kernel_rfl) (by kernel_rfl) ?_
          | refine en_r ?_
        · omega
        · show i64 ((i : Int) + 1) = _; congr 1
        · rfl
      · rename_i hk
        split at h
        · rename_i ht
          split at h
          · rename_i u1 j1 h1
            split at h
            · rename_i u2 j2 h2
              injection h with h; injection h with h3 h4; subst h3; subst h4
              obtain ⟨y1, s1, hy1, hs1, e1⟩ := argF_some h1
              obtain ⟨y2, s2, hy2, hs2, e2⟩ := argF_some h2
              have l1 := arg_len e1
              have l2 := arg_len e2
              have b1 := showF_le L _ _ _ _ hs1
              have b2 := showF_le L _ _ _ _ hs2
              simp only [List.length_append, List.length_cons, List.length_nil] at hu
              have hc1 := show1_ok 53 (fun y => decide (y.text = [45, 62])) hb_show2 show2_ok L (i + 1) j1 y1 s1 hy1 (by omega) (by omega) (by omega) (ih (i + 1) s1 j1 hs1 (by omega))
              have hc2 := show1_ok 54 (fun _ => false) hb_show3 show3_ok L j1 j2 y2 s2 hy2 (by omega) (by omega) (by omega) (ih j1 s2 j2 hs2 (by omega))
              rw [← e1, show ((i + 1 : Nat) : Int) = (i : Int) + 1 by omega] at hc1
              rw [← e2] at hc2
              repeat' first
                | refine en_n ?_
                | refine awp_seq ?_
                | refine awp_region ?_
                | refine alex_nil ?_
                | refine w0 ?_
                | (apply Y_eqlF; exact rfl; exact rfl; first | assumption | omega)
                | (refine rpostC_ret ?_)
                | (refine resC_tup ?_)
                | exact RV_nil
                | (refine RV_d rfl ?_ ?_)
                | (with_reducible exact rfl)
                | (apply Y_eqs; exact rfl; exact rfl)
                | (apply Y_move_clo; exact rfl)
                | (apply Y_assign_clo; exact rfl)
                | (refine aMClo [0, 1] [0, 1] rfl rfl hb_show1 (hc1) rfl ?_ rfl rfl (by decide) rfl rfl rfl rfl rfl rfl ?_; (repeat (refine SArgs_cons rfl ?_)); exact SArgs_nil)
                | (refine aMClo [0, 1] [0, 1] rfl rfl hb_show1 (hc2) rfl ?_ rfl rfl (by decide) rfl rfl rfl rfl rfl rfl ?_; (repeat (refine SArgs_cons rfl ?_)); exact SArgs_nil)
                | (apply Y_cat_l; exact rfl; exact rfl; (try simp only [List.length_append, List.length_cons, List.length_nil]); omega)
                | (apply aJ (hd := rfl); (first | exact Co_dd rfl | exact Co_bb rfl rfl rfl | exact Co_nn rfl); exact rfl; exact (by first | with_reducible exact es_binds | with_reducible exact es_nodes | with_reducible exact es_ints | with_reducible exact es_nodess | with_reducible exact es_toks | with_reducible exact es_strs | with_reducible exact es_u8s); assumption; omega; exact fun _ => rfl)
                | (apply aBox (hd := rfl) (hro := rfl); exact rfl; exact rfl)
                | (apply aAlloc (hd := rfl) (hro := rfl); exact (by first | with_reducible exact zo_m68 | with_reducible exact zo_f24 | with_reducible exact zo_node | with_reducible exact zon_int | with_reducible exact zo_tok | with_reducible exact zo_int | with_reducible exact zo_i64))
                | apply ay (hd := rfl)
                | (apply Y_move_d; exact rfl)
                | (apply Y_assign_d; exact rfl)
                | (apply Y_load_r; exact rfl; exact (by first | with_reducible exact tc_bind | with_reducible exact tc_m51 | with_reducible exact tc_m68 | with_reducible exact tc_pst | with_reducible exact tc_pf | with_reducible exact tcn_int | with_reducible exact tc_nodes | with_reducible exact tc_node | with_reducible exact tc_ints | with_reducible exact tcn_kind | with_reducible exact tcn_i64 | with_reducible exact tcn_str | with_reducible exact tcn_bool | with_reducible exact tc_str | with_reducible exact tc_int | with_reducible exact tc_kind | with_reducible exact tc_tok | with_reducible exact tc_u8s | with_reducible exact tc_toks | with_reducible exact tc_strs | with_reducible exact tc_bool | with_reducible exact tc_err | with_reducible exact tc_i64); exact rfl)
                | (apply Y_add; exact rfl; exact rfl)
                | (apply Y_field_p; exact rfl; exact (by first | with_reducible exact fb_0 | with_reducible exact fb_1 | with_reducible exact fs_0 | with_reducible exact fs_1 | with_reducible exact fn_0 | with_reducible exact fn_1 | with_reducible exact fn_2 | with_reducible exact fn_3 | with_reducible exact fo_0 | with_reducible exact fo_1 | with_reducible exact fo_2 | with_reducible exact fo_3))
                | (apply Y_load_p; exact rfl; exact (by first | with_reducible exact tc_bind | with_reducible exact tc_m51 | with_reducible exact tc_m68 | with_reducible exact tc_pst | with_reducible exact tc_pf | with_reducible exact tcn_int | with_reducible exact tc_nodes | with_reducible exact tc_node | with_reducible exact tc_ints | with_reducible exact tcn_kind | with_reducible exact tcn_i64 | with_reducible exact tcn_str | with_reducible exact tcn_bool | with_reducible exact tc_str | with_reducible exact tc_int | with_reducible exact tc_kind | with_reducible exact tc_tok | with_reducible exact tc_u8s | with_reducible exact tc_toks | with_reducible exact tc_strs | with_reducible exact tc_bool | with_reducible exact tc_err | with_reducible exact tc_i64); exact rfl; exact rfl)
                | (apply Y_mkf; exact rfl)
                | (refine w0' ?_)
                | (apply aStore; exact rfl; exact rfl; exact rfl; exact (by first | with_reducible exact tc_bind | with_reducible exact tc_m51 | with_reducible exact tc_m68 | with_reducible exact tc_pst | with_reducible exact tc_pf | with_reducible exact tcn_int | with_reducible exact tc_nodes | with_reducible exact tc_node | with_reducible exact tc_ints | with_reducible exact tcn_kind | with_reducible exact tcn_i64 | with_reducible exact tcn_str | with_reducible exact tcn_bool | with_reducible exact tc_str | with_reducible exact tc_int | with_reducible exact tc_kind | with_reducible exact tc_tok | with_reducible exact tc_u8s | with_reducible exact tc_toks | with_reducible exact tc_strs | with_reducible exact tc_bool | with_reducible exact tc_err | with_reducible exact tc_i64); exact rfl; exact rfl; exact rfl; exact rfl)
                | (apply awp_condD; exact rfl; (intro hb); rotate_left; (intro hb); rotate_right)
                | (apply awp_condF; exact rfl)
                | refine awp_block ?_
                | refine awp_skip ?_
                | refine awp_ret ?_
                | refine awp_draw (by kernel_rfl) (by kernel_rfl) ?_
                | refine en_r ?_
              · omega
              · exact absurd ht hb
            · cases h
          · cases h
        · rename_i ht
          repeat' first
            | (apply Y_eqsF; exact ht; exact rfl; exact rfl)
            | refine en_n ?_
            | refine awp_seq ?_
            | refine awp_region ?_
            | refine alex_nil ?_
            | refine w0 ?_
            | (apply Y_eqlF; exact rfl; exact rfl; first | assumption | omega)
            | (apply Y_assign_clo; exact rfl)
            | (apply aJ (hd := rfl); (first | exact Co_dd rfl | exact Co_bb rfl rfl rfl | exact Co_nn rfl); exact rfl; exact (by first | with_reducible exact es_binds | with_reducible exact es_nodes | with_reducible exact es_ints | with_reducible exact es_nodess | with_reducible exact es_toks | with_reducible exact es_strs | with_reducible exact es_u8s); assumption; omega; exact fun _ => rfl)
            | (apply aBox (hd := rfl) (hro := rfl); exact rfl; exact rfl)
            | (apply aAlloc (hd := rfl) (hro := rfl); exact (by first | with_reducible exact zo_m68 | with_reducible exact zo_f24 | with_reducible exact zo_node | with_reducible exact zon_int | with_reducible exact zo_tok | with_reducible exact zo_int | with_reducible exact zo_i64))
            | apply ay (hd := rfl)
            | (apply Y_move_d; exact rfl)
            | (apply Y_assign_d; exact rfl)
            | (apply Y_load_r; exact rfl; exact (by first | with_reducible exact tc_bind | with_reducible exact tc_m51 | with_reducible exact tc_m68 | with_reducible exact tc_pst | with_reducible exact tc_pf | with_reducible exact tcn_int | with_reducible exact tc_nodes | with_reducible exact tc_node | with_reducible exact tc_ints | with_reducible exact tcn_kind | with_reducible exact tcn_i64 | with_reducible exact tcn_str | with_reducible exact tcn_bool | with_reducible exact tc_str | with_reducible exact tc_int | with_reducible exact tc_kind | with_reducible exact tc_tok | with_reducible exact tc_u8s | with_reducible exact tc_toks | with_reducible exact tc_strs | with_reducible exact tc_bool | with_reducible exact tc_err | with_reducible exact tc_i64); exact rfl)
            | (apply Y_add; exact rfl; exact rfl)
            | (apply Y_field_p; exact rfl; exact (by first | with_reducible exact fb_0 | with_reducible exact fb_1 | with_reducible exact fs_0 | with_reducible exact fs_1 | with_reducible exact fn_0 | with_reducible exact fn_1 | with_reducible exact fn_2 | with_reducible exact fn_3 | with_reducible exact fo_0 | with_reducible exact fo_1 | with_reducible exact fo_2 | with_reducible exact fo_3))
            | (apply Y_load_p; exact rfl; exact (by first | with_reducible exact tc_bind | with_reducible exact tc_m51 | with_reducible exact tc_m68 | with_reducible exact tc_pst | with_reducible exact tc_pf | with_reducible exact tcn_int | with_reducible exact tc_nodes | with_reducible exact tc_node | with_reducible exact tc_ints | with_reducible exact tcn_kind | with_reducible exact tcn_i64 | with_reducible exact tcn_str | with_reducible exact tcn_bool | with_reducible exact tc_str | with_reducible exact tc_int | with_reducible exact tc_kind | with_reducible exact tc_tok | with_reducible exact tc_u8s | with_reducible exact tc_toks | with_reducible exact tc_strs | with_reducible exact tc_bool | with_reducible exact tc_err | with_reducible exact tc_i64); exact rfl; exact rfl)
            | (apply Y_mkf; exact rfl)
            | (refine w0' ?_)
            | (apply aStore; exact rfl; exact rfl; exact rfl; exact (by first | with_reducible exact tc_bind | with_reducible exact tc_m51 | with_reducible exact tc_m68 | with_reducible exact tc_pst | with_reducible exact tc_pf | with_reducible exact tcn_int | with_reducible exact tc_nodes | with_reducible exact tc_node | with_reducible exact tc_ints | with_reducible exact tcn_kind | with_reducible exact tcn_i64 | with_reducible exact tcn_str | with_reducible exact tcn_bool | with_reducible exact tc_str | with_reducible exact tc_int | with_reducible exact tc_kind | with_reducible exact tc_tok | with_reducible exact tc_u8s | with_reducible exact tc_toks | with_reducible exact tc_strs | with_reducible exact tc_bool | with_reducible exact tc_err | with_reducible exact tc_i64); exact rfl; exact rfl; exact rfl; exact rfl)
            | (apply awp_condF; exact rfl)
            | refine awp_block ?_
            | refine awp_skip ?_
          · omega
          generalize hf : (fun (p : List UInt8 × Nat) (_ : Nat) => match argF (showF n L) L (fun y => decide (y.kids > 0)) p.2 with
            | some (u, j) => some (p.1 ++ 32 :: u, j)
            | none => none) = f at h
          have hf' : ∀ p m c, f p m = some c → ∃ u1 j1, argF (showF n L) L (fun y => decide (y.kids > 0)) p.2 = some (u1, j1) ∧ c = (p.1 ++ 32 :: u1, j1) := fun p m c hc => by
            rw [← hf] at hc
            dsimp only at hc
            split at hc
            · rename_i u1 j1 h1
              injection hc with hc
              exact ⟨u1, j1, h1, hc.symm⟩
            · cases hc
          clear hf
          refine awp_loopF (α := Nat × (List UInt8 × Nat)) (fun p => p.1 ≤ x.kids.toNat ∧ foldO f (x.text, i + 1) ((List.range x.kids.toNat).take p.1) = some p.2 ∧ i + 1 + p.1 ≤ p.2.2 ∧ p.2.2 ≤ L.length) (fun p => [(2, .ptr 0 0), (3, .ptr 1 0), (7, .clo 52 [0, 1]), (10, .d (str p.2.1)), (41, .d (i64 x.kids)), (42, .d (i64 (p.1 : Int)))])
            (fun p => [.bx none none [.d (nodes L)], .bx none none [.d (i64 (p.2.2 : Int))]]) (fun p => x.kids.toNat - p.1) (0, (x.text, i + 1)) ⟨Nat.zero_le _, by simp [foldO], Nat.le_refl _, by simp only; omega⟩
            (Fits_mk (Le_cons rfl (Le_cons rfl (Le_cons rfl (Le_cons rfl (Le_cons rfl (Le_cons rfl Le_nil)))))) (Pre_cons rfl rfl (Pre_cons rfl rfl Pre_nil)) rfl rfl) ?_
          rintro ⟨m, acc, at_⟩ ⟨hm, hfo, hp1, hp2⟩
          dsimp only at hm hfo hp1 hp2 ⊢
          rcases Nat.lt_or_ge m x.kids.toNat with hlt | hge
          · have hix : (List.range x.kids.toNat)[m]? = some m := List.getElem?_range hlt
            obtain ⟨c, hc⟩ := foldO_take h (m + 1)
            have hst := foldO_snoc hix hfo
            rw [hc] at hst
            obtain ⟨u1, j1, ha, rfl⟩ := hf' _ _ _ hst.symm
            have hlen : (acc ++ 32 :: u1).length ≤ u.length := by
              have h2 := h
              rw [← List.take_append_drop (m + 1) (List.range x.kids.toNat), foldO_app, hc, Option.bind_some] at h2
              exact foldO_inv (J := fun p : List UInt8 × Nat => (acc ++ 32 :: u1).length ≤ p.1.length) (fun b x c hb hc => by
                obtain ⟨u2, j2, _, rfl⟩ := hf' _ _ _ hc
                simp only [List.length_append] at hb ⊢; omega) (Nat.le_refl _) h2
            rw [List.length_append, List.length_cons] at hlen
            obtain ⟨y1, s1, hy1, hs1, e1⟩ := argF_some ha
            have l1 := arg_len e1
            have b1 := showF_le L _ _ _ _ hs1
            dsimp only at hy1 hs1 ha b1
            have hc1 := show1_ok 55 (fun y => decide (y.kids > 0)) hb_show4 show4_ok L at_ j1 y1 s1 hy1 (by omega) (by omega) (by omega) (ih at_ s1 j1 hs1 (by omega))
            rw [← e1] at hc1
            have hmk : (m : Int) < x.kids := by omega
            repeat' first
              | refine en_n ?_
              | refine awp_seq ?_
              | refine awp_region ?_
              | refine alex_nil ?_
              | refine w0 ?_
              | (apply Y_lssT; exact rfl; exact rfl; first | assumption | omega)
              | (apply Y_move_clo; exact rfl)
              | (refine aMClo [0, 1] [0, 1] rfl rfl hb_show1 (hc1) rfl ?_ rfl rfl (by decide) rfl rfl rfl rfl rfl rfl ?_; (repeat (refine SArgs_cons rfl ?_)); exact SArgs_nil)
              | (apply Y_cat_l; exact rfl; exact rfl; (try simp only [List.length_append, List.length_cons, List.length_nil]); omega)
              | apply ay (hd := rfl)
              | (apply Y_move_d; exact rfl)
              | (apply Y_assign_d; exact rfl)
              | (apply Y_add; exact rfl; exact rfl)
              | (apply awp_condT; exact rfl)
              | refine awp_block ?_
              | refine awp_skip ?_
              | refine eb_n ?_
            · omega
            · exact ⟨(m + 1, (acc ++ 32 :: u1, j1)), ⟨hlt, hc, by simp only; omega, b1.2⟩, by show x.kids.toNat - (m + 1) < _; omega, Fits_mk (Le_cons rfl (Le_cons rfl (Le_cons rfl (Le_cons rfl (Le_cons rfl (Le_cons rfl Le_nil)))))) (Pre_cons rfl rfl (Pre_cons rfl rfl Pre_nil)) rfl rfl⟩
          · have e2 : (acc, at_) = (u, j) := by rw [List.take_of_length_le (by rw [List.length_range]; exact hge), h] at hfo; injection hfo with hfo; exact hfo.symm
            injection e2 with e2 e3; subst e2; subst e3
            have hmk : ¬ (m : Int) < x.kids := by omega
            repeat' first
              | refine en_n ?_
              | refine awp_seq ?_
              | refine awp_region ?_
              | refine alex_nil ?_
              | refine w0 ?_
              | (apply Y_lssF; exact rfl; exact rfl; first | assumption | omega)
              | (refine rpostC_ret ?_)
              | (refine resC_tup ?_)
              | exact RV_nil
              | (refine RV_d rfl ?_ ?_)
              | (with_reducible exact rfl)
              | apply ay (hd := rfl)
              | (apply Y_move_d; exact rfl)
              | (apply Y_assign_d; exact rfl)
              | (apply Y_load_p; exact rfl; exact (by first | with_reducible exact tc_bind | with_reducible exact tc_m51 | with_reducible exact tc_m68 | with_reducible exact tc_pst | with_reducible exact tc_pf | with_reducible exact tcn_int | with_reducible exact tc_nodes | with_reducible exact tc_node | with_reducible exact tc_ints | with_reducible exact tcn_kind | with_reducible exact tcn_i64 | with_reducible exact tcn_str | with_reducible exact tcn_bool | with_reducible exact tc_str | with_reducible exact tc_int | with_reducible exact tc_kind | with_reducible exact tc_tok | with_reducible exact tc_u8s | with_reducible exact tc_toks | with_reducible exact tc_strs | with_reducible exact tc_bool | with_reducible exact tc_err | with_reducible exact tc_i64); exact rfl; exact rfl)
              | (apply awp_condF; exact rfl)
              | refine awp_ret ?_
              | refine awp_exit ?_
              | refine awp_draw (by kernel_rfl) (by kernel_rfl) ?_
              | refine en_e ?_
              | refine eb_e ?_
            all_goals rfl
end Go.Proofs.YtamhkcnpocdfcaaGreatDoor
/- The statements on types: the walk of Show. -/
namespace Go.Proofs.YtamhkcnpocdfcaaGreatDoor
open Go.Sx
attribute [local irreducible] hasBody Program.underlying Ylds astep alex alexE alexD awp PCall FCall RCall MCall QCall athen ablock ajump rpost fpost mpost rpostC
theorem Show_ok (L : List Nd) (hL : L.length ≤ 1000000) (hnum : ∀ x ∈ L, 0 ≤ x.num ∧ x.num ≤ 9223372036854775807) (hc : ckT L = 0) (n : Nat) (u : List UInt8) (j : Nat) (h : showF n L 0 = some (u, j)) (hu : u.length ≤ 1000000) :
    PCall Tryz.prog 7 [nodes L] (.tup [str u, i64 0]) := by
  have hs := show_ok L hL hnum n 0 u j h hu
  have hL2 : L.length ≤ 2000000 := by omega
  refine pcall_ofC Tryz.func7 rfl Tryz.ntmps7 Tryz.results7 rfl ?_
  intro wb St0
  repeat' first
    | refine en_n ?_
    | refine awp_seq ?_
    | refine awp_region ?_
    | refine alex_nil ?_
    | refine w0 ?_
    | (apply Y_neqF; exact rfl; exact rfl; first | assumption | omega)
    | (refine rpostC_ret ?_)
    | (refine resC_tup ?_)
    | exact RV_nil
    | (refine RV_d rfl ?_ ?_)
    | (with_reducible exact rfl)
    | (apply Y_call (hb := hb_Check) (hc := Check_ok L hL2); exact CoL_d rfl CoL_nil)
    | (apply Y_call (hb := hb_show) (hc := hs); exact CoL_d rfl (CoL_d rfl CoL_nil))
    | apply ay (hd := rfl)
    | (apply Y_move_d; exact rfl)
    | (apply Y_assign_d; exact rfl)
    | (apply Y_extract; exact rfl; exact rfl)
    | (apply awp_condF; exact rfl)
    | refine awp_skip ?_
    | refine awp_ret ?_
  all_goals rfl
end Go.Proofs.YtamhkcnpocdfcaaGreatDoor
/- The statements on types: the law's small functions. -/
namespace Go.Proofs.YtamhkcnpocdfcaaGreatDoor
open Go.Sx
theorem hb_lvariable : hasBody Tryz.prog 21 = true := by kernel_rfl
attribute [local irreducible] hasBody Program.underlying Ylds astep alex alexE alexD awp PCall FCall RCall MCall QCall athen ablock ajump rpost fpost mpost rpostC
theorem lvariable_ok (n : Int) : PCall Tryz.prog 21 [i64 n] (nodes (varN n)) := by
  refine pcall_of Tryz.func21 rfl Tryz.ntmps21 Tryz.results21 rfl ?_
  intro wb St0
  repeat' first
    | refine en_n ?_
    | refine awp_seq ?_
    | refine awp_region ?_
    | refine alex_nil ?_
    | refine w0 ?_
    | (apply Y_buildD; exact pl_node; exact zo_node; exact PD_d rfl rfl (PD_d rfl rfl PD_nil); exact rfl)
    | apply ay (hd := rfl)
    | (apply Y_move_d; exact rfl)
    | (apply Y_assign_d; exact rfl)
    | (apply Y_assign_nil; exact rfl)
    | (apply Y_lit1; exact (by first | with_reducible exact ety_binds | with_reducible exact ety_nodes | with_reducible exact ety_ints | with_reducible exact ety_nodess | with_reducible exact ety_toks | with_reducible exact ety_strs | with_reducible exact ety_u8s); exact (by first | with_reducible exact es_binds | with_reducible exact es_nodes | with_reducible exact es_ints | with_reducible exact es_nodess | with_reducible exact es_toks | with_reducible exact es_strs | with_reducible exact es_u8s); exact (by first | with_reducible exact zs_bind | with_reducible exact zs_node | with_reducible exact zs_int | with_reducible exact zs_nodes | with_reducible exact zs_tok | with_reducible exact zs_str | with_reducible exact zs_i64 | with_reducible exact zs_u8); exact rfl; exact rfl; (first | exact CoL_d rfl CoL_nil | exact CoL_b rfl rfl rfl CoL_nil | exact CoL_n rfl CoL_nil); exact rfl)
    | refine awp_ret ?_
    | refine rpost_ret ?_
    | (apply res1; exact rfl)
  rfl
theorem hb_Few : hasBody Tryz.prog 6 = true := by kernel_rfl
def fewT (A : List Nd) : Bool := decide (A.length ≤ 60) && A.all fun t => decide (t.text.length ≤ 60)
theorem fewT_no {A : List Nd} {i : Nat} {x : Nd} (h1 : A[i]? = some x) (h : (x.text.length : Int) > 60) : fewT A = false := by
  have : (A.all fun t => decide (t.text.length ≤ 60)) = false := by
    rw [List.all_eq_false]; exact ⟨x, List.mem_of_getElem? h1, by simp; omega⟩
  rw [fewT, this, Bool.and_false]
theorem fewT_yes {A : List Nd} {i : Nat} (h : ∀ (j : Nat) x, j < i → A[j]? = some x → x.text.length ≤ 60) (hi : A.length ≤ i ∨ 61 ≤ i) (hil : i ≤ A.length) : decide ((A.length : Int) ≤ 60) = fewT A := by
  by_cases h2 : A.length ≤ 60
  · have : (A.all fun t => decide (t.text.length ≤ 60)) = true := by
      rw [List.all_eq_true]; intro x hx
      obtain ⟨j, hj, rfl⟩ := List.getElem_of_mem hx
      exact decide_eq_true (h j _ (by omega) (List.getElem?_eq_getElem hj))
    rw [fewT, this, Bool.and_true, decide_eq_decide]; omega
  · rw [fewT, decide_eq_false h2, Bool.false_and, decide_eq_false_iff_not]; omega
theorem Few_ok (A : List Nd) : PCall Tryz.prog 6 [nodes A] (bl (fewT A)) := by
  refine pcall_of Tryz.func6 rfl Tryz.ntmps6 Tryz.results6 rfl ?_
  intro wb St0
  repeat' first
    | refine en_n ?_
    | refine awp_seq ?_
    | refine awp_region ?_
    | refine alex_nil ?_
    | refine w0 ?_
    | apply ay (hd := rfl)
    | (apply Y_assign_d; exact rfl)
    | refine awp_block ?_
  refine awp_loopF (α := Nat) (fun i => i ≤ A.length ∧ ∀ (j : Nat) x, j < i → A[j]? = some x → x.text.length ≤ 60) (fun i => [(0, .d (nodes A)), (3, .d (i64 (i : Int)))]) (fun _ => []) (fun i => A.length - i) 0 ⟨Nat.zero_le _, fun _ _ h => by omega⟩
      (Fits_mk (Le_cons rfl (Le_cons rfl Le_nil)) Pre_nil rfl rfl) ?_
  rintro i ⟨hi1, hi2⟩
  repeat' first
    | refine en_n ?_
    | refine awp_seq ?_
    | refine awp_region ?_
    | refine alex_nil ?_
    | refine w0 ?_
    | (apply k1u (hd := rfl); exact rfl; exact rfl)
    | (apply Y_len_l; exact rfl; with_reducible exact ustr)
    | (apply aI (hd := rfl); (first | exact Co_dd rfl | exact Co_bb rfl rfl rfl | exact Co_nn rfl); exact rfl; exact (by first | with_reducible exact es_binds | with_reducible exact es_nodes | with_reducible exact es_ints | with_reducible exact es_nodess | with_reducible exact es_toks | with_reducible exact es_strs | with_reducible exact es_u8s); exact fun _ => rfl; rotate_left; intro v hv; rotate_right)
    | apply ay (hd := rfl)
    | (apply Y_move_d; exact rfl)
    | (apply Y_assign_d; exact rfl)
    | (apply Y_field_r; exact rfl; exact (by first | with_reducible exact fb_0 | with_reducible exact fb_1 | with_reducible exact fs_0 | with_reducible exact fs_1 | with_reducible exact fn_0 | with_reducible exact fn_1 | with_reducible exact fn_2 | with_reducible exact fn_3 | with_reducible exact fo_0 | with_reducible exact fo_1 | with_reducible exact fo_2 | with_reducible exact fo_3))
    | (apply Y_load_r1; exact rfl; exact (by first | with_reducible exact tc_bind | with_reducible exact tc_m51 | with_reducible exact tc_m68 | with_reducible exact tc_pst | with_reducible exact tc_pf | with_reducible exact tcn_int | with_reducible exact tc_nodes | with_reducible exact tc_node | with_reducible exact tc_ints | with_reducible exact tcn_kind | with_reducible exact tcn_i64 | with_reducible exact tcn_str | with_reducible exact tcn_bool | with_reducible exact tc_str | with_reducible exact tc_int | with_reducible exact tc_kind | with_reducible exact tc_tok | with_reducible exact tc_u8s | with_reducible exact tc_toks | with_reducible exact tc_strs | with_reducible exact tc_bool | with_reducible exact tc_err | with_reducible exact tc_i64))
    | (apply Y_len_m; exact rfl; exact (by first | with_reducible exact et_binds | with_reducible exact et_nodes | with_reducible exact et_ints | with_reducible exact et_nodess | with_reducible exact et_toks | with_reducible exact et_strs | with_reducible exact et_u8s))
    | (apply Y_lss; exact rfl; exact rfl)
    | (apply Y_leq; exact rfl; exact rfl)
    | (apply Y_gtr; exact rfl; exact rfl)
    | (apply Y_add; exact rfl; exact rfl)
    | (apply Y_pick_t; exact rfl; exact rfl)
    | (apply Y_pick_f; exact rfl; exact rfl)
    | (apply w1; exact rfl; exact rfl)
    | (apply gD; exact rfl; exact rfl; (intro hb); rotate_left; (intro hb); rotate_right)
    | (apply awp_condD; exact rfl; (intro hb); rotate_left; (intro hb); rotate_right)
    | (apply awp_condF; exact rfl)
    | refine awp_block ?_
    | refine awp_skip ?_
    | refine awp_ret ?_
    | refine awp_exit ?_
    | refine en_r ?_
    | refine en_e ?_
    | refine eb_n ?_
    | refine eb_r ?_
    | refine eb_e ?_
    | refine rpost_ret ?_
    | (apply res1; exact rfl)
  all_goals try omega
  · exact bl_is (fewT_no (i := i) ‹A[Int.toNat (i : Int)]? = some _› hb).symm
  · refine ⟨i + 1, ⟨by omega, fun j x hj h1 => ?_⟩, by omega, Fits_mk (Le_cons rfl (Le_cons rfl Le_nil)) Pre_nil rfl rfl⟩
    rcases Nat.lt_or_ge j i with h | h
    · exact hi2 j x h h1
    · have hb2 := hb
      have e : j = i := by omega
      subst e
      have e1 := ‹A[Int.toNat (j : Int)]? = some _›.symm.trans h1
      cases e1; omega
  · exact bl_is (fewT_yes hi2 (by omega) hi1)
  · exact bl_is (fewT_yes hi2 (by omega) hi1)
end Go.Proofs.YtamhkcnpocdfcaaGreatDoor
/- The statements on types: the law's fun. -/
namespace Go.Proofs.YtamhkcnpocdfcaaGreatDoor
open Go.Sx
theorem hb_lfun : hasBody Tryz.prog 20 = true := by kernel_rfl
attribute [local irreducible] hasBody Program.underlying Ylds astep alex alexE alexD awp PCall FCall RCall MCall QCall athen ablock ajump rpost fpost mpost rpostC
def funN (a b : List Nd) : List Nd := makeF ⟨32, [45, 62], 0, 0⟩ [a, b]
theorem fun_ok (a b : List Nd) (ha : a.length ≤ 900000) (hb : b.length ≤ 900000) : PCall Tryz.prog 20 [nodes a, nodes b] (nodes (funN a b)) := by
  have hm := rMake_ok ⟨32, [45, 62], 0, 0⟩ [a, b] (by simp) (by simp; omega)
  refine pcall_of Tryz.func20 rfl Tryz.ntmps20 Tryz.results20 rfl ?_
  intro wb St0
  repeat' first
    | refine en_n ?_
    | refine awp_seq ?_
    | refine awp_region ?_
    | refine alex_nil ?_
    | refine w0 ?_
    | (apply Y_buildD; exact pl_node; exact zo_node; exact PD_d rfl rfl (PD_d rfl rfl PD_nil); exact rfl)
    | (apply Y_call (hb := hb_rMake) (hc := hm); exact CoL_d rfl (CoL_d rfl CoL_nil))
    | apply ay (hd := rfl)
    | (apply Y_move_d; exact rfl)
    | (apply Y_assign_d; exact rfl)
    | (apply Y_assign_nil; exact rfl)
    | (apply Y_lit2; exact (by first | with_reducible exact ety_binds | with_reducible exact ety_nodes | with_reducible exact ety_ints | with_reducible exact ety_nodess | with_reducible exact ety_toks | with_reducible exact ety_strs | with_reducible exact ety_u8s); exact (by first | with_reducible exact es_binds | with_reducible exact es_nodes | with_reducible exact es_ints | with_reducible exact es_nodess | with_reducible exact es_toks | with_reducible exact es_strs | with_reducible exact es_u8s); exact (by first | with_reducible exact zs_bind | with_reducible exact zs_node | with_reducible exact zs_int | with_reducible exact zs_nodes | with_reducible exact zs_tok | with_reducible exact zs_str | with_reducible exact zs_i64 | with_reducible exact zs_u8); exact rfl; exact rfl; (first | exact CoL_d rfl (CoL_d rfl CoL_nil) | exact CoL_b rfl rfl rfl (CoL_b rfl rfl rfl CoL_nil)); exact rfl)
    | refine awp_ret ?_
    | refine rpost_ret ?_
    | (apply res1; exact rfl)
  all_goals rfl
end Go.Proofs.YtamhkcnpocdfcaaGreatDoor
/- The statements on types: the chapter's example holds. -/
namespace Go.Proofs.YtamhkcnpocdfcaaGreatDoor
open Go.Sx
theorem un_pst : Tryz.prog.underlying 44 = some (.pointer (Tryz.prog.pointee 44)) := by kernel_rfl
def wwI : List Nd := [⟨32, intT, 0, 0⟩]
def wwT : List Nd := [⟨32, texT, 0, 0⟩]
def wwA : List Nd := funN (varN 0) wwI
def wwB : List Nd := funN wwT (varN 1)
def wwF : List Nd := funN (funN (varN 3) wwI) wwT
def wwL : Sto := [(0, wwT), (1, wwI)]
def wwS : List Bd := [⟨0, wwT⟩, ⟨1, wwI⟩]
def wwR (k : Int) : List Nd := if k = 0 then wwT else wwI
def awS : List UInt8 := [40, 39, 51, 32, 45, 62, 32, 105, 110, 116, 41, 32, 45, 62, 32, 116, 101, 120, 116]
theorem aw_u : uniF 10 [] wwA wwB = some (0, wwL) := by decide +kernel
theorem aw_n : uniF 10 [] wwI wwT = some (91, []) := by decide +kernel
theorem aw_v : uniF 10 [] (varN 5) wwI = some (0, [(5, wwI)]) := by decide +kernel
theorem aw_i3 : Lib.itoa 3 = [51] := by rw [Lib.itoa, if_neg (by decide), show (3 : Int).toNat = 3 from rfl, Lib.decDigits_one (by decide)]; rfl
theorem aw_f : wwF = [⟨32, [45, 62], 0, 2⟩, ⟨32, [45, 62], 0, 2⟩, ⟨31, [], 3, 0⟩, ⟨32, intT, 0, 0⟩, ⟨32, texT, 0, 0⟩] := by decide +kernel
theorem aw_s : showF 10 wwF 0 = some (awS, 5) := by
  rw [aw_f]
  simp [showF, argF, aw_i3, foldO, intT, texT, awS]
theorem aw_ck : ckT wwF = 0 ∧ ckT wwI = 0 ∧ ckT (varN 0) = 0 ∧ ckT (varN 1) = 0 ∧ ckT (varN 5) = 0 := by decide +kernel
theorem aw_z : sizeF 10 wwL (varN 0) [] = some (1, [(0, 1)]) ∧ sizeF 10 wwL (varN 1) [] = some (1, [(1, 1)]) ∧ sizeF 10 [(5, wwI)] (varN 5) [] = some (1, [(5, 1)]) := by decide +kernel
theorem aw_r : resF 10 wwL (varN 0) = some wwT ∧ resF 10 wwL (varN 1) = some wwI ∧ resF 10 [(5, wwI)] (varN 5) = some wwI := by decide +kernel
theorem aw_vs : varsF (varN 4) = [4] ∧ canonF (varN 4) = varN 0 ∧ applyF wwS (varN 1) = wwI := by decide +kernel
attribute [local irreducible] hasBody Program.underlying Ylds astep alex alexE alexD awp PCall FCall RCall MCall QCall athen ablock ajump rpost fpost mpost rpostC

set_option maxHeartbeats 4000000 in
theorem awake_ok : PCall Tryz.prog 5 [] (bl true) := by
  have h1 := Unify_yes 10 wwA wwB wwL wwR wwS (by decide) (by decide) aw_u (by intro p hp; simp only [wwL, List.mem_cons, List.not_mem_nil, or_false] at hp; rcases hp with rfl | rfl <;> decide) (by decide)
    (by
      intro p hp
      simp only [wwL, List.mem_cons, List.not_mem_nil, or_false] at hp
      rcases hp with rfl | rfl
      · exact ⟨aw_ck.2.2.1, ⟨10, 1, _, aw_z.1, by decide⟩, ⟨10, aw_r.1⟩, by decide⟩
      · exact ⟨aw_ck.2.2.2.1, ⟨10, 1, _, aw_z.2.1, by decide⟩, ⟨10, aw_r.2.1⟩, by decide⟩)
    (List.Perm.refl _) (by simp [wwS])
  have h2 := Unify_no 10 wwI wwT 91 [] (by decide) (by decide) aw_n (by decide)
  have h3 := Show_ok wwF (by decide) (by rw [aw_f]; decide) aw_ck.1 10 awS 5 aw_s (by decide)
  have h4 := SUnify_ok 6 10 [] (varN 5) wwI 0 [(5, wwI)] (by decide) (by decide) (fun p hp => by cases hp) aw_v
  have h5 := Resolve_ok 6 [(5, wwI)] (varN 5) wwI 10 10 1 _ (by intro p hp; simp only [List.mem_cons, List.not_mem_nil, or_false] at hp; subst hp; decide) (by decide) aw_ck.2.2.2.2 aw_z.2.2 (by decide) aw_r.2.2 (by decide)
  have h6 := Vars_ok (varN 4) (by decide)
  rw [aw_vs.1] at h6
  have h7 := Canon_ok (varN 4) (by decide)
  rw [aw_vs.2.1] at h7
  have h8 := Apply_ok wwS (varN 1) (by decide) (by decide) (by intro b hb; simp only [wwS, List.mem_cons, List.not_mem_nil, or_false] at hb; rcases hb with rfl | rfl <;> decide)
  rw [aw_vs.2.2] at h8
  have h9 := Check_ok wwI (by decide)
  rw [aw_ck.2.1] at h9
  have s1 := Same_ok wwT wwT (by decide)
  have s2 := Same_ok wwI wwI (by decide)
  have s3 := Same_ok (varN 5) (varN 5) (by decide)
  have s4 := Same_ok (varN 0) (varN 0) (by decide)
  rw [decide_eq_true rfl] at s1 s2 s3 s4
  have r1 := Row_ok [4] [4] (by decide)
  rw [decide_eq_true rfl] at r1
  have f1 := fun_ok (varN 0) wwI (by decide) (by decide)
  have f2 := fun_ok wwT (varN 1) (by decide) (by decide)
  have f3 := fun_ok (varN 3) wwI (by decide) (by decide)
  have f4 := fun_ok (funN (varN 3) wwI) wwT (by decide) (by decide)
  refine pcall_of Tryz.func5 rfl Tryz.ntmps5 Tryz.results5 rfl ?_
  intro wb St0
  repeat' first
    | (apply aJ (L := wwS) (enc := Bd.av) (hd := rfl); exact Co_dd rfl; exact rfl; (with_reducible exact es_binds); exact rfl; decide; exact fun _ => rfl)
    | refine en_n ?_
    | refine awp_seq ?_
    | refine awp_region ?_
    | refine alex_nil ?_
    | refine w0 ?_
    | (refine Y_buildD (cs := [.val (.int .i64 32), .val (.string ⟨intT.toArray⟩), .val (.int .i64 0), .val (.int .i64 0)]) pl_node zo_node (PD_d rfl rfl (PD_d rfl rfl PD_nil)) rfl)
    | (refine Y_buildD (cs := [.val (.int .i64 32), .val (.string ⟨texT.toArray⟩), .val (.int .i64 0), .val (.int .i64 0)]) pl_node zo_node (PD_d rfl rfl (PD_d rfl rfl PD_nil)) rfl)
    | (apply Y_strT; exact rfl; exact rfl; exact rfl)
    | (apply Y_eqlT; exact rfl; exact rfl; exact rfl)
    | (apply Y_call (hb := hb_lvariable) (hc := lvariable_ok _))
    | (refine Y_call hb_lfun f1 (CoL_d rfl (CoL_d rfl CoL_nil)))
    | (refine Y_call hb_lfun f2 (CoL_d rfl (CoL_d rfl CoL_nil)))
    | (refine Y_call hb_lfun f3 (CoL_d rfl (CoL_d rfl CoL_nil)))
    | (refine Y_call hb_lfun f4 (CoL_d rfl (CoL_d rfl CoL_nil)))
    | (refine Y_call hb_Unify h1 (CoL_d rfl (CoL_d rfl CoL_nil)))
    | (refine Y_call hb_Unify h2 (CoL_d rfl (CoL_d rfl CoL_nil)))
    | (refine Y_call hb_Show h3 (CoL_d rfl CoL_nil))
    | (refine aNCall [] hb_NewStore (NewStore_ok 5) ?_ rfl rfl (by decide) rfl rfl rfl rfl rfl rfl ?_; (repeat (refine SArgs_cons rfl ?_)); exact SArgs_nil)
    | (apply Y_eqnil_p; exact rfl; exact rfl; exact un_pst)
    | (refine aMCall [1, 0] hb_Fresh (Fresh_ok 5 [] (by decide)) ?_ rfl rfl (by decide) rfl rfl rfl rfl rfl rfl ?_; (repeat (refine SArgs_cons rfl ?_)); exact SArgs_nil)
    | (refine aMCall [1, 0] hb_SUnify (h4) ?_ rfl rfl (by decide) rfl rfl rfl rfl rfl rfl ?_; (repeat (refine SArgs_cons rfl ?_)); exact SArgs_nil)
    | (refine aMCall [1, 0] hb_Resolve (h5) ?_ rfl rfl (by decide) rfl rfl rfl rfl rfl rfl ?_; (repeat (refine SArgs_cons rfl ?_)); exact SArgs_nil)
    | (apply Y_ext0; exact rfl)
    | (apply Y_ext1; exact rfl)
    | (refine Y_copy (x := .tmp 55) (s := .pair (.d (nodes wwI)) (.d (i64 0))) (.inl rfl) rfl)
    | (refine Y_call hb_Same s1 (CoL_d rfl (CoL_d rfl CoL_nil)))
    | (refine Y_call hb_Same s2 (CoL_d rfl (CoL_d rfl CoL_nil)))
    | (refine Y_call hb_Same s3 (CoL_d rfl (CoL_d rfl CoL_nil)))
    | (refine Y_call hb_Same s4 (CoL_d rfl (CoL_d rfl CoL_nil)))
    | (refine Y_call hb_Check h9 (CoL_d rfl CoL_nil))
    | (refine Y_call hb_Vars h6 (CoL_d rfl CoL_nil))
    | (refine Y_call hb_Row r1 (CoL_d rfl (CoL_d rfl CoL_nil)))
    | (refine Y_call hb_Canon h7 (CoL_d rfl CoL_nil))
    | (refine Y_call hb_Apply h8 (CoL_d rfl (CoL_d rfl CoL_nil)))
    | apply ay (hd := rfl)
    | (apply Y_move_d; exact rfl)
    | (apply Y_assign_d; exact rfl)
    | (apply Y_field_r; exact rfl; exact (by first | with_reducible exact fb_0 | with_reducible exact fb_1 | with_reducible exact fs_0 | with_reducible exact fs_1 | with_reducible exact fn_0 | with_reducible exact fn_1 | with_reducible exact fn_2 | with_reducible exact fn_3 | with_reducible exact fo_0 | with_reducible exact fo_1 | with_reducible exact fo_2 | with_reducible exact fo_3))
    | (apply Y_load_r1; exact rfl; exact (by first | with_reducible exact tc_bind | with_reducible exact tc_m51 | with_reducible exact tc_m68 | with_reducible exact tc_pst | with_reducible exact tc_pf | with_reducible exact tcn_int | with_reducible exact tc_nodes | with_reducible exact tc_node | with_reducible exact tc_ints | with_reducible exact tcn_kind | with_reducible exact tcn_i64 | with_reducible exact tcn_str | with_reducible exact tcn_bool | with_reducible exact tc_str | with_reducible exact tc_int | with_reducible exact tc_kind | with_reducible exact tc_tok | with_reducible exact tc_u8s | with_reducible exact tc_toks | with_reducible exact tc_strs | with_reducible exact tc_bool | with_reducible exact tc_err | with_reducible exact tc_i64))
    | (apply Y_len_m; exact rfl; exact (by first | with_reducible exact et_binds | with_reducible exact et_nodes | with_reducible exact et_ints | with_reducible exact et_nodess | with_reducible exact et_toks | with_reducible exact et_strs | with_reducible exact et_u8s))
    | (apply Y_pick_t; exact rfl; exact rfl)
    | (apply Y_extract; exact rfl; exact rfl)
    | (apply Y_move_ptr; exact rfl)
    | (apply Y_assign_ptr; exact rfl)
    | (apply Y_lit1; exact (by first | with_reducible exact ety_binds | with_reducible exact ety_nodes | with_reducible exact ety_ints | with_reducible exact ety_nodess | with_reducible exact ety_toks | with_reducible exact ety_strs | with_reducible exact ety_u8s); exact (by first | with_reducible exact es_binds | with_reducible exact es_nodes | with_reducible exact es_ints | with_reducible exact es_nodess | with_reducible exact es_toks | with_reducible exact es_strs | with_reducible exact es_u8s); exact (by first | with_reducible exact zs_bind | with_reducible exact zs_node | with_reducible exact zs_int | with_reducible exact zs_nodes | with_reducible exact zs_tok | with_reducible exact zs_str | with_reducible exact zs_i64 | with_reducible exact zs_u8); exact rfl; exact rfl; (first | exact CoL_d rfl CoL_nil | exact CoL_b rfl rfl rfl CoL_nil | exact CoL_n rfl CoL_nil); exact rfl)
    | (apply w1; exact rfl; exact rfl)
    | (apply awp_condF; exact rfl)
    | refine awp_skip ?_
    | refine awp_ret ?_
    | refine rpost_ret ?_
    | (apply res1; exact rfl)
    | exact CoL_nil
    | refine CoL_d rfl ?_
  all_goals rfl
end Go.Proofs.YtamhkcnpocdfcaaGreatDoor
/- The statements on types: the walk of the law Turned. -/
namespace Go.Proofs.YtamhkcnpocdfcaaGreatDoor
open Go.Sx
theorem hb_rSame9 : hasBody Tryz.prog 19 = true := by kernel_rfl
theorem few_len {t : List Nd} (h : fewT t = true) : t.length ≤ 60 := by rw [fewT, Bool.and_eq_true] at h; exact of_decide_eq_true h.1
theorem not_few {t : List Nd} (h : ¬ fewT t = true) : fewT t = false := by
  cases h2 : fewT t with
  | false => rfl
  | true => exact absurd h2 h
attribute [local irreducible] hasBody Program.underlying Ylds astep alex alexE alexD awp PCall FCall RCall MCall QCall athen ablock ajump rpost fpost mpost rpostC
theorem rSame9_ok (l : List Bd) (hl : l.length ≤ 2000000) (ht : ∀ b ∈ l, b.ty.length ≤ 2000000) : PCall Tryz.prog 19 [binds l, binds l] (bl true) := by
  have hSl : ∀ x ∈ l, PCall Tryz.prog 16 [nodes x.ty, nodes x.ty] (bl true) := fun x h => by
    have h1 := Same_ok x.ty x.ty (ht x h)
    rw [decide_eq_true rfl] at h1; exact h1
  refine pcall_of Tryz.func19 rfl Tryz.ntmps19 Tryz.results19 rfl ?_
  intro wb St0
  repeat' first
    | refine en_n ?_
    | refine awp_seq ?_
    | refine awp_region ?_
    | refine alex_nil ?_
    | refine w0 ?_
    | (apply Y_neqF; exact rfl; exact rfl; first | assumption | omega)
    | apply ay (hd := rfl)
    | (apply Y_move_d; exact rfl)
    | (apply Y_assign_d; exact rfl)
    | (apply Y_len_m; exact rfl; exact (by first | with_reducible exact et_binds | with_reducible exact et_nodes | with_reducible exact et_ints | with_reducible exact et_nodess | with_reducible exact et_toks | with_reducible exact et_strs | with_reducible exact et_u8s))
    | (apply awp_condF; exact rfl)
    | refine awp_block ?_
    | refine awp_skip ?_
  refine awp_loopF (α := Nat) (fun i => i ≤ l.length) (fun i => [(0, .d (binds l)), (1, .d (binds l)), (5, .d (i64 (i : Int)))]) (fun _ => []) (fun i => l.length - i) 0 (Nat.zero_le _)
    (Fits_mk (Le_cons rfl (Le_cons rfl (Le_cons rfl Le_nil))) Pre_nil rfl rfl) ?_
  intro i hi
  repeat' first
    | refine en_n ?_
    | refine awp_seq ?_
    | refine awp_region ?_
    | refine alex_nil ?_
    | refine w0 ?_
    | (apply Y_neqF; exact rfl; exact rfl; first | assumption | omega)
    | (refine Y_call hb_Same (hSl _ (List.mem_of_getElem? hv)) (CoL_d rfl (CoL_d rfl CoL_nil)))
    | (apply aJ (hd := rfl); (first | exact Co_dd rfl | exact Co_bb rfl rfl rfl | exact Co_nn rfl); exact rfl; exact (by first | with_reducible exact es_binds | with_reducible exact es_nodes | with_reducible exact es_ints | with_reducible exact es_nodess | with_reducible exact es_toks | with_reducible exact es_strs | with_reducible exact es_u8s); assumption; omega; exact fun _ => rfl)
    | (apply aI (hd := rfl); (first | exact Co_dd rfl | exact Co_bb rfl rfl rfl | exact Co_nn rfl); exact rfl; exact (by first | with_reducible exact es_binds | with_reducible exact es_nodes | with_reducible exact es_ints | with_reducible exact es_nodess | with_reducible exact es_toks | with_reducible exact es_strs | with_reducible exact es_u8s); exact fun _ => rfl; rotate_left; intro v hv; rotate_right)
    | apply ay (hd := rfl)
    | (apply Y_move_d; exact rfl)
    | (apply Y_assign_d; exact rfl)
    | (apply Y_field_r; exact rfl; exact (by first | with_reducible exact fb_0 | with_reducible exact fb_1 | with_reducible exact fs_0 | with_reducible exact fs_1 | with_reducible exact fn_0 | with_reducible exact fn_1 | with_reducible exact fn_2 | with_reducible exact fn_3 | with_reducible exact fo_0 | with_reducible exact fo_1 | with_reducible exact fo_2 | with_reducible exact fo_3))
    | (apply Y_load_r1; exact rfl; exact (by first | with_reducible exact tc_bind | with_reducible exact tc_m51 | with_reducible exact tc_m68 | with_reducible exact tc_pst | with_reducible exact tc_pf | with_reducible exact tcn_int | with_reducible exact tc_nodes | with_reducible exact tc_node | with_reducible exact tc_ints | with_reducible exact tcn_kind | with_reducible exact tcn_i64 | with_reducible exact tcn_str | with_reducible exact tcn_bool | with_reducible exact tc_str | with_reducible exact tc_int | with_reducible exact tc_kind | with_reducible exact tc_tok | with_reducible exact tc_u8s | with_reducible exact tc_toks | with_reducible exact tc_strs | with_reducible exact tc_bool | with_reducible exact tc_err | with_reducible exact tc_i64))
    | (apply Y_len_m; exact rfl; exact (by first | with_reducible exact et_binds | with_reducible exact et_nodes | with_reducible exact et_ints | with_reducible exact et_nodess | with_reducible exact et_toks | with_reducible exact et_strs | with_reducible exact et_u8s))
    | (apply Y_lss; exact rfl; exact rfl)
    | (apply Y_add; exact rfl; exact rfl)
    | (apply Y_not; exact rfl)
    | (apply Y_pick_f; exact rfl; exact rfl)
    | (apply w1; exact rfl; exact rfl)
    | (apply awp_condD; exact rfl; (intro hb); rotate_left; (intro hb); rotate_right)
    | (apply awp_condF; exact rfl)
    | refine awp_block ?_
    | refine awp_skip ?_
    | refine awp_ret ?_
    | refine awp_exit ?_
    | refine awp_draw (by kernel_rfl) (by kernel_rfl) ?_
    | refine en_e ?_
    | refine eb_n ?_
    | refine eb_e ?_
    | refine rpost_ret ?_
    | (apply res1; exact rfl)
  all_goals try omega
  · exact ⟨i + 1, by omega, by omega, Fits_mk (Le_cons rfl (Le_cons rfl (Le_cons rfl Le_nil))) Pre_nil rfl rfl⟩
  · rfl
set_option maxHeartbeats 4000000 in
theorem Turned_ok (a b : List Nd) : PCall Tryz.prog 4 [nodes a, nodes b] (bl true) := by
  have hFa := Few_ok a
  have hFb := Few_ok b
  by_cases hfa : fewT a = true
  · rw [hfa] at hFa
    have hla := few_len hfa
    by_cases hfb : fewT b = true
    · rw [hfb] at hFb
      have hlb := few_len hfb
      have hOa := own_ok a (by omega)
      have hOb := own_ok b (by omega)
      obtain ⟨l, e, hU, hC⟩ := Unify_UR a b (by omega) (by omega)
      obtain ⟨m, f, hV, hD⟩ := Unify_UR b a (by omega) (by omega)
      obtain ⟨rfl, rfl⟩ := hU.turn hV
      have hl : l.length ≤ 2000000 ∧ ∀ x ∈ l, x.ty.length ≤ 2000000 := by
        rcases hU.made with ⟨_, rfl⟩ | ⟨_, hM⟩
        · exact ⟨by simp, fun x h => by cases h⟩
        · exact ⟨Nat.le_trans hM.few (by omega), fun x h => Nat.le_trans (hM.len x h) (by omega)⟩
      have hS := rSame9_ok l hl.1 hl.2
      refine pcall_of Tryz.func4 rfl Tryz.ntmps4 Tryz.results4 rfl ?_
      intro wb St0
      repeat' first
        | refine en_n ?_
        | refine awp_seq ?_
        | refine awp_region ?_
        | refine alex_nil ?_
        | refine w0 ?_
        | (apply Y_eqlT; exact rfl; exact rfl; first | assumption | omega)
        | (refine Y_call hb_awake awake_ok CoL_nil)
        | (refine Y_call hb_Few hFa (CoL_d rfl CoL_nil))
        | (refine Y_call hb_Few hFb (CoL_d rfl CoL_nil))
        | (refine Y_call hb_own hOa (CoL_d rfl CoL_nil))
        | (refine Y_call hb_own hOb (CoL_d rfl CoL_nil))
        | (refine Y_call hb_Unify hC (CoL_d rfl (CoL_d rfl CoL_nil)))
        | (refine Y_call hb_Unify hD (CoL_d rfl (CoL_d rfl CoL_nil)))
        | (refine Y_call hb_rSame9 hS (CoL_d rfl (CoL_d rfl CoL_nil)))
        | apply ay (hd := rfl)
        | (apply Y_move_d; exact rfl)
        | (apply Y_assign_d; exact rfl)
        | (apply Y_not; exact rfl)
        | (apply Y_pick_t; exact rfl; exact rfl)
        | (apply Y_pick_f; exact rfl; exact rfl)
        | (apply Y_extract; exact rfl; exact rfl)
        | (apply w1; exact rfl; exact rfl)
        | (apply awp_condF; exact rfl)
        | refine awp_skip ?_
        | refine awp_ret ?_
        | refine rpost_ret ?_
        | (apply res1; exact rfl)
      all_goals rfl
    · rw [not_few hfb] at hFb
      refine pcall_of Tryz.func4 rfl Tryz.ntmps4 Tryz.results4 rfl ?_
      intro wb St0
      repeat' first
        | refine en_n ?_
        | refine awp_seq ?_
        | refine awp_region ?_
        | refine alex_nil ?_
        | refine w0 ?_
        | (refine Y_call hb_awake awake_ok CoL_nil)
        | (refine Y_call hb_Few hFa (CoL_d rfl CoL_nil))
        | (refine Y_call hb_Few hFb (CoL_d rfl CoL_nil))
        | apply ay (hd := rfl)
        | (apply Y_move_d; exact rfl)
        | (apply Y_assign_d; exact rfl)
        | (apply Y_not; exact rfl)
        | (apply Y_pick_f; exact rfl; exact rfl)
        | (apply w1; exact rfl; exact rfl)
        | (apply awp_condT; exact rfl)
        | refine awp_ret ?_
        | refine en_r ?_
        | refine rpost_ret ?_
        | (apply res1; exact rfl)
      all_goals rfl
  · rw [not_few hfa] at hFa
    refine pcall_of Tryz.func4 rfl Tryz.ntmps4 Tryz.results4 rfl ?_
    intro wb St0
    repeat' first
      | refine en_n ?_
      | refine awp_seq ?_
      | refine awp_region ?_
      | refine alex_nil ?_
      | refine w0 ?_
      | (apply k0u (hd := rfl); exact rfl; exact rfl)
      | (refine Y_call hb_awake awake_ok CoL_nil)
      | (refine Y_call hb_Few hFa (CoL_d rfl CoL_nil))
      | apply ay (hd := rfl)
      | (apply Y_move_d; exact rfl)
      | (apply Y_assign_d; exact rfl)
      | (apply Y_not; exact rfl)
      | (apply Y_pick_t; exact rfl; exact rfl)
      | (apply Y_pick_f; exact rfl; exact rfl)
      | (apply w1; exact rfl; exact rfl)
      | (apply awp_condT; exact rfl)
      | refine awp_ret ?_
      | refine en_r ?_
      | refine rpost_ret ?_
      | (apply res1; exact rfl)
    all_goals rfl
end Go.Proofs.YtamhkcnpocdfcaaGreatDoor
/- The token statements: may a token be? (the document's) -/
namespace Go.Proofs.YtamhkcnpocdfcaaGreatDoor
open Go.Sx
attribute [local irreducible] hasBody Program.underlying Ylds astep alex alexE alexD awp PCall FCall RCall MCall QCall athen ablock ajump rpost fpost mpost

theorem nil_pos {s : List UInt8} (h : s ≠ []) : (0 : Int) < (s.length : Int) := by
  cases s with
  | nil => exact absurd rfl h
  | cons => simp
theorem u8_all {p : UInt8 → Prop} (h : ∀ n : Fin 256, p (UInt8.ofNat n.1)) (c : UInt8) : p c := by
  have := h ⟨c.toNat, c.toNat_lt⟩
  simpa using this
theorem isK_1 : ∀ c, isK c = 1 ↔ isSmall c = true := u8_all (by decide +kernel)
theorem isK_2 : ∀ c, isK c = 2 ↔ isGreat c = true := u8_all (by decide +kernel)
theorem btw14 : ∀ c, btw 1 4 c = isInner c := u8_all (by decide +kernel)
theorem btw55 : ∀ c, btw 5 5 c = isSign c := u8_all (by decide +kernel)
theorem span_all (p : UInt8 → Bool) (s : List UInt8) : spanF p s = s.length ↔ s.all p = true := by
  induction s with
  | nil => simp [spanF]
  | cons c s ih =>
    rw [spanF, List.all_cons]
    cases p c with
    | false => simp
    | true => simp [ih]
theorem while14 (s : List UInt8) : ((0 + spanF (btw 1 4) (s.drop 0) : Nat) : Int) = (s.length : Int) ↔ s.all isInner = true := by
  rw [← span_all, show btw 1 4 = isInner from funext btw14, List.drop_zero, Nat.zero_add]; omega
theorem while55 (s : List UInt8) : ((0 + spanF (btw 5 5) (s.drop 0) : Nat) : Int) = (s.length : Int) ↔ s.all isSign = true := by
  rw [← span_all, show btw 5 5 = isSign from funext btw55, List.drop_zero, Nat.zero_add]; omega

set_option maxHeartbeats 4000000 in
theorem rRight_ok (t : Tk) (hs : t.text.length ≤ 1000000) : PCall Tryz.prog 29 [t.av] (bl (rightF t)) := by
  refine pcall_of Tryz.func29 rfl Tryz.ntmps29 Tryz.results29 rfl ?_
  intro wb St0
  repeat' first
    | refine en_n ?_
    | refine awp_seq ?_
    | refine awp_region ?_
    | refine alex_nil ?_
    | refine w0 ?_
    | (apply k1u (hd := rfl); exact rfl; exact rfl)
    | (apply Y_len_l; exact rfl; with_reducible exact ustr)
    | (apply Y_eqs; exact rfl; exact rfl)
    | (apply Y_neqs; exact rfl; exact rfl)
    | (apply Y_call (hb := hb_rKey) (hc := rKey_ok t.text))
    | (apply Y_call (hb := hb_rWrap) (hc := rWrap_ok t.num))
    | (apply Y_call (hb := hb_is) (hc := is_ok (t.text.getD 0 0)))
    | (refine Y_call hb_while (while_ok t.text 0 1 4 hs (Nat.zero_le _)) (CoL_d rfl (CoL_d rfl (CoL_d rfl (CoL_d rfl CoL_nil)))))
    | (refine Y_call hb_while (while_ok t.text 0 5 5 hs (Nat.zero_le _)) (CoL_d rfl (CoL_d rfl (CoL_d rfl (CoL_d rfl CoL_nil)))))
    | (apply Y_idx_l (i := 0); exact rfl; exact rfl; with_reducible exact ustr; exact ⟨by omega, nil_pos (by assumption)⟩)
    | (apply aBox (hd := rfl) (hro := rfl); exact rfl; exact rfl)
    | apply ay (hd := rfl)
    | (apply Y_move_d; exact rfl)
    | (apply Y_assign_d; exact rfl)
    | (apply Y_lss; exact rfl; exact rfl)
    | (apply Y_leq; exact rfl; exact rfl)
    | (apply Y_eql; exact rfl; exact rfl)
    | (apply Y_not; exact rfl)
    | (apply Y_pick_t; exact rfl; exact rfl)
    | (apply Y_pick_f; exact rfl; exact rfl)
    | (apply Y_field_p; exact rfl; exact (by first | with_reducible exact fo_0 | with_reducible exact fo_1 | with_reducible exact fo_2 | with_reducible exact fo_3))
    | (apply Y_load_p; exact rfl; exact (by first | with_reducible exact tc_str | with_reducible exact tc_int | with_reducible exact tc_kind | with_reducible exact tc_tok | with_reducible exact tc_u8s | with_reducible exact tc_toks | with_reducible exact tc_strs | with_reducible exact tc_bool | with_reducible exact tc_err | with_reducible exact tc_i64); exact rfl; exact rfl)
    | (apply w1; exact rfl; exact rfl)
    | (apply k1 (hd := rfl); exact rfl; exact rfl)
    | (apply gD; exact rfl; exact rfl; (intro hb); rotate_left; (intro hb); rotate_right)
    | (apply awp_condD; exact rfl; (intro hb); rotate_left; (intro hb); rotate_right)
    | refine awp_block ?_
    | refine awp_skip ?_
    | refine awp_ret ?_
    | refine awp_draw (by kernel_rfl) (by kernel_rfl) ?_
    | refine en_r ?_
    | refine eb_n ?_
    | refine eb_r ?_
    | refine rpost_ret ?_
    | (apply res1; exact rfl)
    | exact CoL_nil
    | refine CoL_d rfl ?_
  all_goals refine bl_is ?_
  all_goals try simp only [while14, while55] at *
  all_goals try (have hp : (t.pos < 0) = False := eq_false (by assumption); simp only [rightF, hp, if_false])
  all_goals try simp_all [rightF, namedF, allF, isK_1, isK_2]
  all_goals first | omega | (obtain ⟨x, hx, hn⟩ := hb; intro h; rw [h x hx] at hn; cases hn)
end Go.Proofs.YtamhkcnpocdfcaaGreatDoor
/- The statements on types: the walks of the document's small functions. -/
namespace Go.Proofs.YtamhkcnpocdfcaaGreatDoor
open Go.Sx
theorem hb_rplace : hasBody Tryz.prog 40 = true := by kernel_rfl
theorem hb_rVars9 : hasBody Tryz.prog 15 = true := by kernel_rfl
theorem hb_rCanon9 : hasBody Tryz.prog 17 = true := by kernel_rfl
theorem hb_rdigits : hasBody Tryz.prog 37 = true := by kernel_rfl
theorem hb_rbrackets : hasBody Tryz.prog 39 = true := by kernel_rfl
theorem hb_rRight9 : hasBody Tryz.prog 9 = true := by kernel_rfl
theorem hb_rShow9 : hasBody Tryz.prog 13 = true := by kernel_rfl
attribute [local irreducible] hasBody Program.underlying Ylds astep alex alexE alexD awp PCall FCall RCall MCall QCall athen ablock ajump rpost fpost mpost rpostC

theorem idx_neg {A : List Int} {b : Int} : idxF A b < 0 ↔ b ∉ A := by
  constructor
  · intro h c
    unfold idxF at h
    split at h
    · omega
    · rename_i hn
      rw [List.findIdx?_eq_none_iff] at hn
      have := hn b c; simp at this
  · intro h; rw [idx_miss h]; decide
theorem rplace_ok (l : List Int) (n : Int) (hl : l.length ≤ 2000000) : PCall Tryz.prog 40 [nints l, i64 n] (i64 (idxF l n)) := by
  refine pcall_of Tryz.func40 rfl Tryz.ntmps40 Tryz.results40 rfl ?_
  intro wb St0
  repeat' first
    | refine en_n ?_
    | refine awp_seq ?_
    | refine awp_region ?_
    | refine alex_nil ?_
    | refine w0 ?_
    | apply ay (hd := rfl)
    | (apply Y_assign_d; exact rfl)
    | refine awp_block ?_
  refine awp_loopF (α := Nat) (fun i => i ≤ l.length ∧ ∀ j < i, l[j]? ≠ some n) (fun i => [(0, .d (nints l)), (1, .d (i64 n)), (5, .d (i64 (i : Int)))]) (fun _ => []) (fun i => l.length - i) 0 ⟨Nat.zero_le _, fun j h => by omega⟩
    (Fits_mk (Le_cons rfl (Le_cons rfl (Le_cons rfl Le_nil))) Pre_nil rfl rfl) ?_
  rintro i ⟨hi1, hi2⟩
  repeat' first
    | refine en_n ?_
    | refine awp_seq ?_
    | refine awp_region ?_
    | refine alex_nil ?_
    | refine w0 ?_
    | (apply aI (hd := rfl); (first | exact Co_dd rfl | exact Co_bb rfl rfl rfl | exact Co_nn rfl); exact rfl; exact (by first | with_reducible exact es_binds | with_reducible exact es_nodes | with_reducible exact es_ints | with_reducible exact es_nodess | with_reducible exact es_toks | with_reducible exact es_strs | with_reducible exact es_u8s); exact fun _ => rfl; rotate_left; intro v hv; rotate_right)
    | apply ay (hd := rfl)
    | (apply Y_move_d; exact rfl)
    | (apply Y_assign_d; exact rfl)
    | (apply Y_load_r1; exact rfl; exact (by first | with_reducible exact tc_bind | with_reducible exact tc_m51 | with_reducible exact tc_m68 | with_reducible exact tc_pst | with_reducible exact tc_pf | with_reducible exact tcn_int | with_reducible exact tc_nodes | with_reducible exact tc_node | with_reducible exact tc_ints | with_reducible exact tcn_kind | with_reducible exact tcn_i64 | with_reducible exact tcn_str | with_reducible exact tcn_bool | with_reducible exact tc_str | with_reducible exact tc_int | with_reducible exact tc_kind | with_reducible exact tc_tok | with_reducible exact tc_u8s | with_reducible exact tc_toks | with_reducible exact tc_strs | with_reducible exact tc_bool | with_reducible exact tc_err | with_reducible exact tc_i64))
    | (apply Y_len_m; exact rfl; exact (by first | with_reducible exact et_binds | with_reducible exact et_nodes | with_reducible exact et_ints | with_reducible exact et_nodess | with_reducible exact et_toks | with_reducible exact et_strs | with_reducible exact et_u8s))
    | (apply Y_lss; exact rfl; exact rfl)
    | (apply Y_eql; exact rfl; exact rfl)
    | (apply Y_add; exact rfl; exact rfl)
    | (apply awp_condD; exact rfl; (intro hb); rotate_left; (intro hb); rotate_right)
    | refine awp_block ?_
    | refine awp_skip ?_
    | refine awp_ret ?_
    | refine awp_exit ?_
    | refine en_r ?_
    | refine en_e ?_
    | refine eb_n ?_
    | refine eb_r ?_
    | refine eb_e ?_
    | refine rpost_ret ?_
    | (apply res1; exact rfl)
  all_goals try omega
  · exact i64_is (idx_hit hi2 (by rw [← hb]; exact hv)).symm
  · refine ⟨i + 1, ⟨by omega, fun j hj => ?_⟩, by omega, Fits_mk (Le_cons rfl (Le_cons rfl (Le_cons rfl Le_nil))) Pre_nil rfl rfl⟩
    rcases Nat.lt_or_ge j i with h1 | h1
    · exact hi2 j h1
    · have hv' : l[i]? = some v := hv
      rw [show j = i by omega, hv']; intro c; injection c with c; exact hb c
  · exact i64_is (idx_miss fun c => by obtain ⟨j, hj⟩ := List.mem_iff_getElem?.1 c; exact hi2 j (by have := (List.getElem?_eq_some_iff.1 hj).1; omega) hj).symm

theorem rVars9_ok (L : List Nd) (hL : L.length ≤ 2000000) : PCall Tryz.prog 15 [nodes L] (nints (varsG L)) := by
  refine pcall_of Tryz.func15 rfl Tryz.ntmps15 Tryz.results15 rfl ?_
  intro wb St0
  repeat' first
    | refine en_n ?_
    | refine awp_seq ?_
    | refine awp_region ?_
    | refine alex_nil ?_
    | refine w0 ?_
    | (apply aLit0 (hd := rfl) (hro := rfl); exact ety_ints; exact es_ints; exact zs_int; exact rfl)
    | apply ay (hd := rfl)
    | (apply Y_assign_d; exact rfl)
    | (apply Y_assign_nil; exact rfl)
    | (apply Y_assign_buf; exact rfl)
    | refine awp_block ?_
  refine awp_loopF (α := Nat) (fun i => i ≤ L.length) (fun i => [(0, .d (nodes L)), (3, .buf 0 ((varsG (L.take i)).map ival).length), (4, .d (i64 (i : Int)))]) (fun i => [.buf false 3 1 ((varsG (L.take i)).map ival)]) (fun i => L.length - i) 0 (Nat.zero_le _)
    (Fits_mk (Le_cons rfl (Le_buf rfl rfl (Le_cons rfl Le_nil))) (Pre_buf rfl rfl rfl Pre_nil) rfl rfl) ?_
  intro i hi
  repeat' first
    | refine en_n ?_
    | refine awp_seq ?_
    | refine awp_region ?_
    | refine alex_nil ?_
    | refine w0 ?_
    | (apply k1u (hd := rfl); exact rfl; exact rfl)
    | (refine Y_call hb_rplace (rplace_ok (varsG (L.take i)) v.num (varsG_bd i hL)) (CoL_b rfl rfl rfl (CoL_d rfl CoL_nil)))
    | (apply aJ (hd := rfl); (first | exact Co_dd rfl | exact Co_bb rfl rfl rfl | exact Co_nn rfl); exact rfl; exact (by first | with_reducible exact es_binds | with_reducible exact es_nodes | with_reducible exact es_ints | with_reducible exact es_nodess | with_reducible exact es_toks | with_reducible exact es_strs | with_reducible exact es_u8s); assumption; omega; exact fun _ => rfl)
    | (apply aI (hd := rfl); (first | exact Co_dd rfl | exact Co_bb rfl rfl rfl | exact Co_nn rfl); exact rfl; exact (by first | with_reducible exact es_binds | with_reducible exact es_nodes | with_reducible exact es_ints | with_reducible exact es_nodess | with_reducible exact es_toks | with_reducible exact es_strs | with_reducible exact es_u8s); exact fun _ => rfl; rotate_left; intro v hv; rotate_right)
    | (apply aApp (hd := rfl) (hro := rfl); exact rfl; exact rfl; (first | exact Co_dd rfl | exact Co_bb rfl rfl rfl | exact Co_nn rfl); (first | exact rfl | (simp; done)); exact rfl; exact (by first | with_reducible exact ety_binds | with_reducible exact ety_nodes | with_reducible exact ety_ints | with_reducible exact ety_nodess | with_reducible exact ety_toks | with_reducible exact ety_strs | with_reducible exact ety_u8s); exact (by first | with_reducible exact es_binds | with_reducible exact es_nodes | with_reducible exact es_ints | with_reducible exact es_nodess | with_reducible exact es_toks | with_reducible exact es_strs | with_reducible exact es_u8s); exact (by first | with_reducible exact zl_bind | with_reducible exact zl_node | with_reducible exact zl_int | with_reducible exact zl_nodes | with_reducible exact zl_tok | with_reducible exact zl_str | with_reducible exact zl_i64 | with_reducible exact zl_u8); exact (by first | with_reducible exact by_binds | with_reducible exact by_nodes | with_reducible exact by_ints | with_reducible exact by_nodess | with_reducible exact by_toks | with_reducible exact by_strs | with_reducible exact by_u8s); (first | exact sz_map (fun _ => rfl) | exact sz_lit rfl))
    | apply ay (hd := rfl)
    | (apply Y_move_d; exact rfl)
    | (apply Y_assign_d; exact rfl)
    | (apply Y_field_r; exact rfl; exact (by first | with_reducible exact fb_0 | with_reducible exact fb_1 | with_reducible exact fs_0 | with_reducible exact fs_1 | with_reducible exact fn_0 | with_reducible exact fn_1 | with_reducible exact fn_2 | with_reducible exact fn_3 | with_reducible exact fo_0 | with_reducible exact fo_1 | with_reducible exact fo_2 | with_reducible exact fo_3))
    | (apply Y_load_r1; exact rfl; exact (by first | with_reducible exact tc_bind | with_reducible exact tc_m51 | with_reducible exact tc_m68 | with_reducible exact tc_pst | with_reducible exact tc_pf | with_reducible exact tcn_int | with_reducible exact tc_nodes | with_reducible exact tc_node | with_reducible exact tc_ints | with_reducible exact tcn_kind | with_reducible exact tcn_i64 | with_reducible exact tcn_str | with_reducible exact tcn_bool | with_reducible exact tc_str | with_reducible exact tc_int | with_reducible exact tc_kind | with_reducible exact tc_tok | with_reducible exact tc_u8s | with_reducible exact tc_toks | with_reducible exact tc_strs | with_reducible exact tc_bool | with_reducible exact tc_err | with_reducible exact tc_i64))
    | (apply Y_len_m; exact rfl; exact (by first | with_reducible exact et_binds | with_reducible exact et_nodes | with_reducible exact et_ints | with_reducible exact et_nodess | with_reducible exact et_toks | with_reducible exact et_strs | with_reducible exact et_u8s))
    | (apply Y_lss; exact rfl; exact rfl)
    | (apply Y_eql; exact rfl; exact rfl)
    | (apply Y_add; exact rfl; exact rfl)
    | (apply Y_pick_t; exact rfl; exact rfl)
    | (apply Y_pick_f; exact rfl; exact rfl)
    | (apply Y_move_buf; exact rfl)
    | (apply Y_assign_buf; exact rfl)
    | (apply Y_lit1; exact (by first | with_reducible exact ety_binds | with_reducible exact ety_nodes | with_reducible exact ety_ints | with_reducible exact ety_nodess | with_reducible exact ety_toks | with_reducible exact ety_strs | with_reducible exact ety_u8s); exact (by first | with_reducible exact es_binds | with_reducible exact es_nodes | with_reducible exact es_ints | with_reducible exact es_nodess | with_reducible exact es_toks | with_reducible exact es_strs | with_reducible exact es_u8s); exact (by first | with_reducible exact zs_bind | with_reducible exact zs_node | with_reducible exact zs_int | with_reducible exact zs_nodes | with_reducible exact zs_tok | with_reducible exact zs_str | with_reducible exact zs_i64 | with_reducible exact zs_u8); exact rfl; exact rfl; (first | exact CoL_d rfl CoL_nil | exact CoL_b rfl rfl rfl CoL_nil | exact CoL_n rfl CoL_nil); exact rfl)
    | (apply w1; exact rfl; exact rfl)
    | (apply gD; exact rfl; exact rfl; (intro hb); rotate_left; (intro hb); rotate_right)
    | (apply awp_condD; exact rfl; (intro hb); rotate_left; (intro hb); rotate_right)
    | (apply awp_condF; exact rfl)
    | refine awp_block ?_
    | refine awp_skip ?_
    | refine awp_ret ?_
    | refine awp_exit ?_
    | refine en_e ?_
    | refine eb_n ?_
    | refine eb_e ?_
    | refine rpost_ret ?_
    | (apply res1b; exact rfl; exact rfl; (first | exact rfl | (simp; done)))
  all_goals try omega
  · have := varsG_bd (L := L) i hL; simp only [List.length_map, List.length_cons, List.length_nil]; omega
  · have hk : v.kind = 31 := ‹_›
    have e : varsG (L.take (i + 1)) = varsG (L.take i) ++ [v.num] := by rw [varsG_take (i := i) hv, addV, if_pos ⟨hk, idx_neg.1 hb⟩]
    exact ⟨i + 1, by omega, by omega, Fits_mk (Le_cons rfl (Le_buf rfl (by rw [e]; simp) (Le_cons rfl Le_nil))) (Pre_buf rfl rfl (by rw [e, List.map_append]; rfl) Pre_nil) rfl rfl⟩
  · have e : varsG (L.take (i + 1)) = varsG (L.take i) := by rw [varsG_take (i := i) hv, addV, if_neg (fun h => hb (idx_neg.2 h.2))]
    exact ⟨i + 1, by omega, by omega, Fits_mk (Le_cons rfl (Le_buf rfl (by rw [e]) (Le_cons rfl Le_nil))) (Pre_buf rfl rfl (by rw [e]) Pre_nil) rfl rfl⟩
  · have e : varsG (L.take (i + 1)) = varsG (L.take i) := by rw [varsG_take (i := i) hv, addV, if_neg (fun h => hb h.1)]
    exact ⟨i + 1, by omega, by omega, Fits_mk (Le_cons rfl (Le_buf rfl (by rw [e]) (Le_cons rfl Le_nil))) (Pre_buf rfl rfl (by rw [e]) Pre_nil) rfl rfl⟩
  · have e : L.take i = L := List.take_of_length_le (by omega)
    rw [e]; rfl

theorem can_take {vs : List Int} {L : List Nd} {i : Nat} {v : Nd} (h : L[i]? = some v) : (L.take (i + 1)).map (can1 vs) = (L.take i).map (can1 vs) ++ [can1 vs v] := by rw [List.take_add_one, h]; simp
theorem rCanon9_ok (L : List Nd) (hL : L.length ≤ 2000000) : PCall Tryz.prog 17 [nodes L] (nodes (L.map (can1 (varsG L)))) := by
  have hvl : (varsG L).length ≤ 2000000 := by have := varsG_bd (L := L) L.length hL; rwa [List.take_length] at this
  refine pcall_of Tryz.func17 rfl Tryz.ntmps17 Tryz.results17 rfl ?_
  intro wb St0
  repeat' first
    | refine en_n ?_
    | refine awp_seq ?_
    | refine awp_region ?_
    | refine alex_nil ?_
    | refine w0 ?_
    | (apply aLit0 (hd := rfl) (hro := rfl); exact ety_nodes; exact es_nodes; exact zs_node; exact rfl)
    | (refine Y_call hb_rVars9 (rVars9_ok L hL) (CoL_d rfl CoL_nil))
    | apply ay (hd := rfl)
    | (apply Y_move_d; exact rfl)
    | (apply Y_assign_d; exact rfl)
    | (apply Y_assign_nil; exact rfl)
    | (apply Y_assign_buf; exact rfl)
    | refine awp_block ?_
  refine awp_loopF (α := Nat) (fun i => i ≤ L.length) (fun i => [(0, .d (nodes L)), (3, .d (nints (varsG L))), (4, .buf 0 (((L.take i).map (can1 (varsG L))).map Nd.av).length), (5, .d (i64 (i : Int)))]) (fun i => [.buf false 41 4 (((L.take i).map (can1 (varsG L))).map Nd.av)]) (fun i => L.length - i) 0 (Nat.zero_le _)
    (Fits_mk (Le_cons rfl (Le_cons rfl (Le_buf rfl rfl (Le_cons rfl Le_nil)))) (Pre_buf rfl rfl rfl Pre_nil) rfl rfl) ?_
  intro i hi
  repeat' first
    | refine en_n ?_
    | refine awp_seq ?_
    | refine awp_region ?_
    | refine alex_nil ?_
    | refine w0 ?_
    | (refine Y_call hb_rplace (rplace_ok (varsG L) v.num hvl) (CoL_d rfl (CoL_d rfl CoL_nil)))
    | (apply aI (hd := rfl); (first | exact Co_dd rfl | exact Co_bb rfl rfl rfl | exact Co_nn rfl); exact rfl; exact (by first | with_reducible exact es_binds | with_reducible exact es_nodes | with_reducible exact es_ints | with_reducible exact es_nodess | with_reducible exact es_toks | with_reducible exact es_strs | with_reducible exact es_u8s); exact fun _ => rfl; rotate_left; intro v hv; rotate_right)
    | (apply aApp (hd := rfl) (hro := rfl); exact rfl; exact rfl; (first | exact Co_dd rfl | exact Co_bb rfl rfl rfl | exact Co_nn rfl); (first | exact rfl | (simp; done)); exact rfl; exact (by first | with_reducible exact ety_binds | with_reducible exact ety_nodes | with_reducible exact ety_ints | with_reducible exact ety_nodess | with_reducible exact ety_toks | with_reducible exact ety_strs | with_reducible exact ety_u8s); exact (by first | with_reducible exact es_binds | with_reducible exact es_nodes | with_reducible exact es_ints | with_reducible exact es_nodess | with_reducible exact es_toks | with_reducible exact es_strs | with_reducible exact es_u8s); exact (by first | with_reducible exact zl_bind | with_reducible exact zl_node | with_reducible exact zl_int | with_reducible exact zl_nodes | with_reducible exact zl_tok | with_reducible exact zl_str | with_reducible exact zl_i64 | with_reducible exact zl_u8); exact (by first | with_reducible exact by_binds | with_reducible exact by_nodes | with_reducible exact by_ints | with_reducible exact by_nodess | with_reducible exact by_toks | with_reducible exact by_strs | with_reducible exact by_u8s); (first | exact sz_map (fun _ => rfl) | exact sz_lit rfl))
    | (apply aAlloc (hd := rfl) (hro := rfl); exact (by first | with_reducible exact zo_m68 | with_reducible exact zo_f24 | with_reducible exact zo_node | with_reducible exact zon_int | with_reducible exact zo_tok | with_reducible exact zo_int | with_reducible exact zo_i64))
    | apply ay (hd := rfl)
    | (apply Y_move_d; exact rfl)
    | (apply Y_assign_d; exact rfl)
    | (apply Y_load_r; exact rfl; exact (by first | with_reducible exact tc_bind | with_reducible exact tc_m51 | with_reducible exact tc_m68 | with_reducible exact tc_pst | with_reducible exact tc_pf | with_reducible exact tcn_int | with_reducible exact tc_nodes | with_reducible exact tc_node | with_reducible exact tc_ints | with_reducible exact tcn_kind | with_reducible exact tcn_i64 | with_reducible exact tcn_str | with_reducible exact tcn_bool | with_reducible exact tc_str | with_reducible exact tc_int | with_reducible exact tc_kind | with_reducible exact tc_tok | with_reducible exact tc_u8s | with_reducible exact tc_toks | with_reducible exact tc_strs | with_reducible exact tc_bool | with_reducible exact tc_err | with_reducible exact tc_i64); exact rfl)
    | (apply Y_len_m; exact rfl; exact (by first | with_reducible exact et_binds | with_reducible exact et_nodes | with_reducible exact et_ints | with_reducible exact et_nodess | with_reducible exact et_toks | with_reducible exact et_strs | with_reducible exact et_u8s))
    | (apply Y_lss; exact rfl; exact rfl)
    | (apply Y_eql; exact rfl; exact rfl)
    | (apply Y_add; exact rfl; exact rfl)
    | (apply Y_move_buf; exact rfl)
    | (apply Y_assign_buf; exact rfl)
    | (apply Y_field_p; exact rfl; exact (by first | with_reducible exact fb_0 | with_reducible exact fb_1 | with_reducible exact fs_0 | with_reducible exact fs_1 | with_reducible exact fn_0 | with_reducible exact fn_1 | with_reducible exact fn_2 | with_reducible exact fn_3 | with_reducible exact fo_0 | with_reducible exact fo_1 | with_reducible exact fo_2 | with_reducible exact fo_3))
    | (apply Y_load_p; exact rfl; exact (by first | with_reducible exact tc_bind | with_reducible exact tc_m51 | with_reducible exact tc_m68 | with_reducible exact tc_pst | with_reducible exact tc_pf | with_reducible exact tcn_int | with_reducible exact tc_nodes | with_reducible exact tc_node | with_reducible exact tc_ints | with_reducible exact tcn_kind | with_reducible exact tcn_i64 | with_reducible exact tcn_str | with_reducible exact tcn_bool | with_reducible exact tc_str | with_reducible exact tc_int | with_reducible exact tc_kind | with_reducible exact tc_tok | with_reducible exact tc_u8s | with_reducible exact tc_toks | with_reducible exact tc_strs | with_reducible exact tc_bool | with_reducible exact tc_err | with_reducible exact tc_i64); exact rfl; exact rfl)
    | (apply Y_load_pa; exact rfl; exact (by first | with_reducible exact tc_bind | with_reducible exact tc_m51 | with_reducible exact tc_m68 | with_reducible exact tc_pst | with_reducible exact tc_pf | with_reducible exact tcn_int | with_reducible exact tc_nodes | with_reducible exact tc_node | with_reducible exact tc_ints | with_reducible exact tcn_kind | with_reducible exact tcn_i64 | with_reducible exact tcn_str | with_reducible exact tcn_bool | with_reducible exact tc_str | with_reducible exact tc_int | with_reducible exact tc_kind | with_reducible exact tc_tok | with_reducible exact tc_u8s | with_reducible exact tc_toks | with_reducible exact tc_strs | with_reducible exact tc_bool | with_reducible exact tc_err | with_reducible exact tc_i64); exact rfl; exact rfl; exact rfl)
    | (apply Y_lit1; exact (by first | with_reducible exact ety_binds | with_reducible exact ety_nodes | with_reducible exact ety_ints | with_reducible exact ety_nodess | with_reducible exact ety_toks | with_reducible exact ety_strs | with_reducible exact ety_u8s); exact (by first | with_reducible exact es_binds | with_reducible exact es_nodes | with_reducible exact es_ints | with_reducible exact es_nodess | with_reducible exact es_toks | with_reducible exact es_strs | with_reducible exact es_u8s); exact (by first | with_reducible exact zs_bind | with_reducible exact zs_node | with_reducible exact zs_int | with_reducible exact zs_nodes | with_reducible exact zs_tok | with_reducible exact zs_str | with_reducible exact zs_i64 | with_reducible exact zs_u8); exact rfl; exact rfl; (first | exact CoL_d rfl CoL_nil | exact CoL_b rfl rfl rfl CoL_nil | exact CoL_n rfl CoL_nil); exact rfl)
    | (refine w0' ?_)
    | (apply aStore; exact rfl; exact rfl; exact rfl; exact (by first | with_reducible exact tc_bind | with_reducible exact tc_m51 | with_reducible exact tc_m68 | with_reducible exact tc_pst | with_reducible exact tc_pf | with_reducible exact tcn_int | with_reducible exact tc_nodes | with_reducible exact tc_node | with_reducible exact tc_ints | with_reducible exact tcn_kind | with_reducible exact tcn_i64 | with_reducible exact tcn_str | with_reducible exact tcn_bool | with_reducible exact tc_str | with_reducible exact tc_int | with_reducible exact tc_kind | with_reducible exact tc_tok | with_reducible exact tc_u8s | with_reducible exact tc_toks | with_reducible exact tc_strs | with_reducible exact tc_bool | with_reducible exact tc_err | with_reducible exact tc_i64); exact rfl; exact rfl; exact rfl; exact rfl)
    | (apply awp_condD; exact rfl; (intro hb); rotate_left; (intro hb); rotate_right)
    | refine awp_block ?_
    | refine awp_skip ?_
    | refine awp_ret ?_
    | refine awp_exit ?_
    | refine en_e ?_
    | refine eb_n ?_
    | refine eb_e ?_
    | refine rpost_ret ?_
    | (apply res1b; exact rfl; exact rfl; (first | exact rfl | (simp; done)))
  all_goals try omega
  · simp only [List.length_map, List.length_cons, List.length_nil, List.length_take]; omega
  · have e : can1 (varsG L) v = { v with num := idxF (varsG L) v.num } := by rw [can1, if_pos hb]
    exact ⟨i + 1, by omega, by omega, Fits_mk (Le_cons rfl (Le_cons rfl (Le_buf rfl (by rw [can_take (i := i) hv, List.map_append, List.length_append]; rfl) (Le_cons rfl Le_nil)))) (Pre_buf rfl rfl (by rw [can_take (i := i) hv, e, List.map_append]; rfl) Pre_nil) rfl rfl⟩
  · simp only [List.length_map, List.length_cons, List.length_nil, List.length_take]; omega
  · have e : can1 (varsG L) v = v := by rw [can1, if_neg hb]
    exact ⟨i + 1, by omega, by omega, Fits_mk (Le_cons rfl (Le_cons rfl (Le_buf rfl (by rw [can_take (i := i) hv, List.map_append, List.length_append]; rfl) (Le_cons rfl Le_nil)))) (Pre_buf rfl rfl (by rw [can_take (i := i) hv, e, List.map_append]; rfl) Pre_nil) rfl rfl⟩
  · rw [List.take_of_length_le (show L.length ≤ i by omega)]; rfl

theorem sint9 : (Tryz.prog.underlying 3).isSome = true := by kernel_rfl
theorem rbrackets_ok (s : List UInt8) (b : Bool) (hs : s.length ≤ 2000000) : PCall Tryz.prog 39 [str s, bl b] (str (if b then 40 :: s ++ [41] else s)) := by
  refine pcall_of Tryz.func39 rfl Tryz.ntmps39 Tryz.results39 rfl ?_
  intro wb St0
  cases b with
  | false =>
    repeat' first
      | refine en_n ?_
      | refine awp_seq ?_
      | refine awp_region ?_
      | refine alex_nil ?_
      | refine w0 ?_
      | apply ay (hd := rfl)
      | (apply Y_move_d; exact rfl)
      | (apply Y_assign_d; exact rfl)
      | (apply awp_condF; exact rfl)
      | refine awp_skip ?_
      | refine awp_ret ?_
      | refine rpost_ret ?_
      | (apply res1; exact rfl)
    all_goals rfl
  | true =>
    repeat' first
      | refine en_n ?_
      | refine awp_seq ?_
      | refine awp_region ?_
      | refine alex_nil ?_
      | refine w0 ?_
      | (apply Y_cat_l; exact rfl; exact rfl; simp only [List.length_append, List.length_cons, List.length_nil]; omega)
      | apply ay (hd := rfl)
      | (apply Y_move_d; exact rfl)
      | (apply Y_assign_d; exact rfl)
      | (apply awp_condT; exact rfl)
      | refine awp_ret ?_
      | refine en_r ?_
      | refine rpost_ret ?_
      | (apply res1; exact rfl)
    all_goals rfl

theorem rdigits_ok : ∀ (m n : Nat), n ≤ m → n ≤ 2000000 → PCall Tryz.prog 37 [i64 (n : Int)] (str (Lib.decDigits n))
  | m, n, hm, hn => by
    have hmod : (n : Int).tmod 10 = ((n % 10 : Nat) : Int) := rfl
    have hbyte : UInt8.ofNat (IntKind.u8.wrap (48 + (n : Int).tmod 10)).toNat = UInt8.ofNat (48 + n % 10) := by
      rw [hmod, wrap_u8]; congr 1; omega
    by_cases h10 : n < 10
    · have h10' : ¬ (n : Int) ≥ 10 := by omega
      refine pcall_of Tryz.func37 rfl Tryz.ntmps37 Tryz.results37 rfl ?_
      intro wb St0
      repeat' first
        | (apply Y_b2s (ns := [_]); exact rfl; with_reducible exact uu8s; with_reducible exact uu8; with_reducible exact ustr; exact (by simp))
        | refine en_n ?_
        | refine awp_seq ?_
        | refine awp_region ?_
        | refine alex_nil ?_
        | refine w0 ?_
        | (apply Y_geqF; exact rfl; exact rfl; first | assumption | omega)
        | (apply Y_conv; exact rfl; with_reducible exact sint9; with_reducible exact uu8)
        | (apply Y_rem; exact rfl; exact rfl; exact (by decide))
        | apply ay (hd := rfl)
        | (apply Y_move_d; exact rfl)
        | (apply Y_assign_d; exact rfl)
        | (apply Y_add; exact rfl; exact rfl)
        | (apply Y_lit1; exact (by first | with_reducible exact ety_binds | with_reducible exact ety_nodes | with_reducible exact ety_ints | with_reducible exact ety_nodess | with_reducible exact ety_toks | with_reducible exact ety_strs | with_reducible exact ety_u8s); exact (by first | with_reducible exact es_binds | with_reducible exact es_nodes | with_reducible exact es_ints | with_reducible exact es_nodess | with_reducible exact es_toks | with_reducible exact es_strs | with_reducible exact es_u8s); exact (by first | with_reducible exact zs_bind | with_reducible exact zs_node | with_reducible exact zs_int | with_reducible exact zs_nodes | with_reducible exact zs_tok | with_reducible exact zs_str | with_reducible exact zs_i64 | with_reducible exact zs_u8); exact rfl; exact rfl; (first | exact CoL_d rfl CoL_nil | exact CoL_b rfl rfl rfl CoL_nil | exact CoL_n rfl CoL_nil); exact rfl)
        | (apply awp_condF; exact rfl)
        | refine awp_skip ?_
        | refine awp_ret ?_
        | refine rpost_ret ?_
        | (apply res1; exact rfl)
      all_goals try omega
      · refine str_eq ?_
        rw [Lib.decDigits, dif_pos h10, List.map_cons, List.map_nil, hbyte, show n % 10 = n by omega]
    · obtain ⟨k, rfl⟩ : ∃ k, m = k + 1 := ⟨m - 1, by omega⟩
      have h10' : (n : Int) ≥ 10 := by omega
      have ih := rdigits_ok k (n / 10) (by omega) (by omega)
      have hl := digs_len (n / 10) (by omega)
      have hq : IntKind.i64.wrap ((n : Int).tdiv 10) = ((n / 10 : Nat) : Int) := by rw [show (n : Int).tdiv 10 = ((n / 10 : Nat) : Int) from rfl, wrap_i64]; omega
      rw [← hq] at ih
      refine pcall_of Tryz.func37 rfl Tryz.ntmps37 Tryz.results37 rfl ?_
      intro wb St0
      repeat' first
        | (apply Y_b2s (ns := [_]); exact rfl; with_reducible exact uu8s; with_reducible exact uu8; with_reducible exact ustr; exact (by simp))
        | refine en_n ?_
        | refine awp_seq ?_
        | refine awp_region ?_
        | refine alex_nil ?_
        | refine w0 ?_
        | (apply Y_geqT; exact rfl; exact rfl; first | assumption | omega)
        | (refine Y_call hb_rdigits ih (CoL_d rfl CoL_nil))
        | (apply Y_cat_l; exact rfl; exact rfl; exact (by simp; omega))
        | (apply Y_conv; exact rfl; with_reducible exact sint9; with_reducible exact uu8)
        | (apply Y_rem; exact rfl; exact rfl; exact (by decide))
        | (apply Y_quo; exact rfl; exact rfl; exact (by decide))
        | apply ay (hd := rfl)
        | (apply Y_move_d; exact rfl)
        | (apply Y_assign_d; exact rfl)
        | (apply Y_add; exact rfl; exact rfl)
        | (apply Y_lit1; exact (by first | with_reducible exact ety_binds | with_reducible exact ety_nodes | with_reducible exact ety_ints | with_reducible exact ety_nodess | with_reducible exact ety_toks | with_reducible exact ety_strs | with_reducible exact ety_u8s); exact (by first | with_reducible exact es_binds | with_reducible exact es_nodes | with_reducible exact es_ints | with_reducible exact es_nodess | with_reducible exact es_toks | with_reducible exact es_strs | with_reducible exact es_u8s); exact (by first | with_reducible exact zs_bind | with_reducible exact zs_node | with_reducible exact zs_int | with_reducible exact zs_nodes | with_reducible exact zs_tok | with_reducible exact zs_str | with_reducible exact zs_i64 | with_reducible exact zs_u8); exact rfl; exact rfl; (first | exact CoL_d rfl CoL_nil | exact CoL_b rfl rfl rfl CoL_nil | exact CoL_n rfl CoL_nil); exact rfl)
        | (apply awp_condT; exact rfl)
        | refine awp_ret ?_
        | refine en_r ?_
        | refine rpost_ret ?_
        | (apply res1; exact rfl)
      all_goals try omega
      · refine str_eq ?_
        conv => rhs; rw [Lib.decDigits, dif_neg h10]
        rw [List.map_cons, List.map_nil, hbyte]

theorem okT_is {L : List Nd} : okT L = true ↔ L.length ≤ 4000 ∧ wholeF L = true ∧ L.all rightN = true := by simp [okT, and_assoc]
theorem okT_not {L : List Nd} {i : Nat} {v : Nd} (h : L[i]? = some v) (hv : rightN v = false) : okT L = false := by
  cases h2 : okT L with
  | false => rfl
  | true =>
    have := List.all_eq_true.1 (okT_is.1 h2).2.2 v (List.mem_of_getElem? h)
    rw [hv] at this; cases this
set_option maxHeartbeats 4000000 in
theorem rRight9_ok (L : List Nd) (hL : L.length ≤ 2000000) (ht : ∀ x ∈ L, x.text.length ≤ 1000000) : PCall Tryz.prog 9 [nodes L] (bl (okT L)) := by
  refine pcall_of Tryz.func9 rfl Tryz.ntmps9 Tryz.results9 rfl ?_
  intro wb St0
  repeat' first
    | refine en_n ?_
    | refine awp_seq ?_
    | refine awp_region ?_
    | refine alex_nil ?_
    | refine w0 ?_
    | (apply k0u (hd := rfl); exact rfl; exact rfl)
    | (refine Y_call hb_rWhole (rWhole_ok L hL) (CoL_d rfl CoL_nil))
    | apply ay (hd := rfl)
    | (apply Y_move_d; exact rfl)
    | (apply Y_assign_d; exact rfl)
    | (apply Y_len_m; exact rfl; exact (by first | with_reducible exact et_binds | with_reducible exact et_nodes | with_reducible exact et_ints | with_reducible exact et_nodess | with_reducible exact et_toks | with_reducible exact et_strs | with_reducible exact et_u8s))
    | (apply Y_gtr; exact rfl; exact rfl)
    | (apply Y_not; exact rfl)
    | (apply Y_pick_t; exact rfl; exact rfl)
    | (apply Y_pick_f; exact rfl; exact rfl)
    | (apply w1; exact rfl; exact rfl)
    | (apply gD; exact rfl; exact rfl; (intro hb); rotate_left; (intro hb); rotate_right)
    | (apply awp_condT; exact rfl)
    | (apply awp_cond; exact rfl; (intro hb); rotate_left; (intro hb); rotate_right)
    | refine awp_block ?_
    | refine awp_skip ?_
    | refine awp_ret ?_
    | refine en_r ?_
    | refine rpost_ret ?_
    | (apply res1; exact rfl)
  · refine bl_is ?_
    cases h2 : okT L with
    | false => rfl
    | true => have := (okT_is.1 h2).1; omega
  · refine bl_is ?_
    cases h2 : okT L with
    | false => rfl
    | true => have := (okT_is.1 h2).2.1; rw [this] at hb; cases hb
  · have hlen : L.length ≤ 4000 := by omega
    have hwh : wholeF L = true := by simpa using hb
    refine awp_loopF (α := Nat) (fun i => i ≤ L.length ∧ ∀ (j : Nat) u, j < i → L[j]? = some u → rightN u = true) (fun i => [(0, .d (nodes L)), (3, .d (i64 (i : Int)))]) (fun _ => []) (fun i => L.length - i) 0 ⟨Nat.zero_le _, fun j u h => by omega⟩
      (Fits_mk (Le_cons rfl (Le_cons rfl Le_nil)) Pre_nil rfl rfl) ?_
    rintro i ⟨hi1, hi2⟩
    rcases Nat.lt_or_ge i L.length with hlt | hge
    · obtain ⟨v, hv⟩ : ∃ v, L[i]? = some v := ⟨_, List.getElem?_eq_getElem hlt⟩
      have hli : (i : Int) < (L.length : Int) := by omega
      by_cases hk : v.kind = 31
      · skip
        repeat' first
          | refine en_n ?_
          | refine awp_seq ?_
          | refine awp_region ?_
          | refine alex_nil ?_
          | refine w0 ?_
          | (apply k0u (hd := rfl); exact rfl; exact rfl)
          | (apply Y_lssT; exact rfl; exact rfl; first | assumption | omega)
          | (apply Y_eqlT; exact rfl; exact rfl; first | assumption | omega)
          | (apply Y_neqs; exact rfl; exact rfl)
          | (apply aJ (hd := rfl); (first | exact Co_dd rfl | exact Co_bb rfl rfl rfl | exact Co_nn rfl); exact rfl; exact (by first | with_reducible exact es_binds | with_reducible exact es_nodes | with_reducible exact es_ints | with_reducible exact es_nodess | with_reducible exact es_toks | with_reducible exact es_strs | with_reducible exact es_u8s); assumption; omega; exact fun _ => rfl)
          | (apply aAlloc (hd := rfl) (hro := rfl); exact (by first | with_reducible exact zo_m68 | with_reducible exact zo_f24 | with_reducible exact zo_node | with_reducible exact zon_int | with_reducible exact zo_tok | with_reducible exact zo_int | with_reducible exact zo_i64))
          | apply ay (hd := rfl)
          | (apply Y_move_d; exact rfl)
          | (apply Y_assign_d; exact rfl)
          | (apply Y_load_r; exact rfl; exact (by first | with_reducible exact tc_bind | with_reducible exact tc_m51 | with_reducible exact tc_m68 | with_reducible exact tc_pst | with_reducible exact tc_pf | with_reducible exact tcn_int | with_reducible exact tc_nodes | with_reducible exact tc_node | with_reducible exact tc_ints | with_reducible exact tcn_kind | with_reducible exact tcn_i64 | with_reducible exact tcn_str | with_reducible exact tcn_bool | with_reducible exact tc_str | with_reducible exact tc_int | with_reducible exact tc_kind | with_reducible exact tc_tok | with_reducible exact tc_u8s | with_reducible exact tc_toks | with_reducible exact tc_strs | with_reducible exact tc_bool | with_reducible exact tc_err | with_reducible exact tc_i64); exact rfl)
          | (apply Y_len_m; exact rfl; exact (by first | with_reducible exact et_binds | with_reducible exact et_nodes | with_reducible exact et_ints | with_reducible exact et_nodess | with_reducible exact et_toks | with_reducible exact et_strs | with_reducible exact et_u8s))
          | (apply Y_lss; exact rfl; exact rfl)
          | (apply Y_gtr; exact rfl; exact rfl)
          | (apply Y_neq; exact rfl; exact rfl)
          | (apply Y_add; exact rfl; exact rfl)
          | (apply Y_pick_t; exact rfl; exact rfl)
          | (apply Y_pick_f; exact rfl; exact rfl)
          | (apply Y_field_p; exact rfl; exact (by first | with_reducible exact fb_0 | with_reducible exact fb_1 | with_reducible exact fs_0 | with_reducible exact fs_1 | with_reducible exact fn_0 | with_reducible exact fn_1 | with_reducible exact fn_2 | with_reducible exact fn_3 | with_reducible exact fo_0 | with_reducible exact fo_1 | with_reducible exact fo_2 | with_reducible exact fo_3))
          | (apply Y_load_p; exact rfl; exact (by first | with_reducible exact tc_bind | with_reducible exact tc_m51 | with_reducible exact tc_m68 | with_reducible exact tc_pst | with_reducible exact tc_pf | with_reducible exact tcn_int | with_reducible exact tc_nodes | with_reducible exact tc_node | with_reducible exact tc_ints | with_reducible exact tcn_kind | with_reducible exact tcn_i64 | with_reducible exact tcn_str | with_reducible exact tcn_bool | with_reducible exact tc_str | with_reducible exact tc_int | with_reducible exact tc_kind | with_reducible exact tc_tok | with_reducible exact tc_u8s | with_reducible exact tc_toks | with_reducible exact tc_strs | with_reducible exact tc_bool | with_reducible exact tc_err | with_reducible exact tc_i64); exact rfl; exact rfl)
          | (apply w1; exact rfl; exact rfl)
          | (apply gD; exact rfl; exact rfl; (intro hb); rotate_left; (intro hb); rotate_right)
          | (refine w0' ?_)
          | (apply aStore; exact rfl; exact rfl; exact rfl; exact (by first | with_reducible exact tc_bind | with_reducible exact tc_m51 | with_reducible exact tc_m68 | with_reducible exact tc_pst | with_reducible exact tc_pf | with_reducible exact tcn_int | with_reducible exact tc_nodes | with_reducible exact tc_node | with_reducible exact tc_ints | with_reducible exact tcn_kind | with_reducible exact tcn_i64 | with_reducible exact tcn_str | with_reducible exact tcn_bool | with_reducible exact tc_str | with_reducible exact tc_int | with_reducible exact tc_kind | with_reducible exact tc_tok | with_reducible exact tc_u8s | with_reducible exact tc_toks | with_reducible exact tc_strs | with_reducible exact tc_bool | with_reducible exact tc_err | with_reducible exact tc_i64); exact rfl; exact rfl; exact rfl; exact rfl)
          | (apply awp_condD; exact rfl; (intro hb); rotate_left; (intro hb); rotate_right)
          | (apply awp_condT; exact rfl)
          | refine awp_block ?_
          | refine awp_skip ?_
          | refine awp_ret ?_
          | refine awp_exit ?_
          | refine en_r ?_
          | refine en_e ?_
          | refine eb_r ?_
          | refine eb_e ?_
          | refine rpost_ret ?_
          | (apply res1; exact rfl)
        all_goals try omega
        all_goals first
          | (refine bl_is (okT_not hv ?_).symm
             first
               | (simp_all [rightN]; done)
               | (simp_all [rightN]; omega))
          | (have hr : rightN v = true := by (simp only [rightN, hk, if_true]; first | (simp_all; done) | (simp_all; omega))
             exact ⟨i + 1, ⟨by omega, fun j u hj hu => by
            rcases Nat.lt_or_ge j i with h1 | h1
            · exact hi2 j u h1 hu
            · rw [show j = i by omega, hv] at hu; injection hu with hu; subst hu; exact hr⟩, by omega, Fits_mk (Le_cons rfl (Le_cons rfl Le_nil)) Pre_nil rfl rfl⟩)
      by_cases t1 : v.text = [45, 62]
      · have hR := rRight_ok ⟨2, v.text, 0, 0⟩ (ht v (List.mem_of_getElem? hv))
        rw [show rightF ⟨2, v.text, 0, 0⟩ = false by rw [t1]; decide +kernel] at hR
        by_cases hg : v.kind = 32 ∧ v.num = 0 ∧ v.kids = 2
        · obtain ⟨g1, g2, g3⟩ := hg
          have hr : rightN v = true := by simp [rightN, g1, g2, g3, t1, arrT]
          repeat' first
            | refine en_n ?_
            | refine awp_seq ?_
            | refine awp_region ?_
            | refine alex_nil ?_
            | refine w0 ?_
            | (apply kU (hd := rfl); exact rfl; exact rfl)
            | (apply k1u (hd := rfl); exact rfl; exact rfl)
            | (apply k0u (hd := rfl); exact rfl; exact rfl)
            | (apply Y_lssT; exact rfl; exact rfl; first | assumption | omega)
            | (apply Y_eqlT; exact rfl; exact rfl; first | assumption | omega)
            | (apply Y_eqlF; exact rfl; exact rfl; first | assumption | omega)
            | (apply Y_neqF; exact rfl; exact rfl; first | assumption | omega)
            | (apply Y_strT; exact rfl; exact rfl; exact t1)
            | (apply Y_buildD; exact pl_tok; exact zo_tok; exact PD_d rfl rfl (PD_d rfl rfl PD_nil); exact rfl)
            | (refine Y_call hb_rRight3 hR (CoL_d rfl CoL_nil))
            | (apply aJ (hd := rfl); (first | exact Co_dd rfl | exact Co_bb rfl rfl rfl | exact Co_nn rfl); exact rfl; exact (by first | with_reducible exact es_binds | with_reducible exact es_nodes | with_reducible exact es_ints | with_reducible exact es_nodess | with_reducible exact es_toks | with_reducible exact es_strs | with_reducible exact es_u8s); assumption; omega; exact fun _ => rfl)
            | (apply aAlloc (hd := rfl) (hro := rfl); exact (by first | with_reducible exact zo_m68 | with_reducible exact zo_f24 | with_reducible exact zo_node | with_reducible exact zon_int | with_reducible exact zo_tok | with_reducible exact zo_int | with_reducible exact zo_i64))
            | apply ay (hd := rfl)
            | (apply Y_move_d; exact rfl)
            | (apply Y_assign_d; exact rfl)
            | (apply Y_load_r; exact rfl; exact (by first | with_reducible exact tc_bind | with_reducible exact tc_m51 | with_reducible exact tc_m68 | with_reducible exact tc_pst | with_reducible exact tc_pf | with_reducible exact tcn_int | with_reducible exact tc_nodes | with_reducible exact tc_node | with_reducible exact tc_ints | with_reducible exact tcn_kind | with_reducible exact tcn_i64 | with_reducible exact tcn_str | with_reducible exact tcn_bool | with_reducible exact tc_str | with_reducible exact tc_int | with_reducible exact tc_kind | with_reducible exact tc_tok | with_reducible exact tc_u8s | with_reducible exact tc_toks | with_reducible exact tc_strs | with_reducible exact tc_bool | with_reducible exact tc_err | with_reducible exact tc_i64); exact rfl)
            | (apply Y_len_m; exact rfl; exact (by first | with_reducible exact et_binds | with_reducible exact et_nodes | with_reducible exact et_ints | with_reducible exact et_nodess | with_reducible exact et_toks | with_reducible exact et_strs | with_reducible exact et_u8s))
            | (apply Y_add; exact rfl; exact rfl)
            | (apply Y_not; exact rfl)
            | (apply Y_pick_t; exact rfl; exact rfl)
            | (apply Y_pick_f; exact rfl; exact rfl)
            | (apply Y_field_p; exact rfl; exact (by first | with_reducible exact fb_0 | with_reducible exact fb_1 | with_reducible exact fs_0 | with_reducible exact fs_1 | with_reducible exact fn_0 | with_reducible exact fn_1 | with_reducible exact fn_2 | with_reducible exact fn_3 | with_reducible exact fo_0 | with_reducible exact fo_1 | with_reducible exact fo_2 | with_reducible exact fo_3))
            | (apply Y_load_p; exact rfl; exact (by first | with_reducible exact tc_bind | with_reducible exact tc_m51 | with_reducible exact tc_m68 | with_reducible exact tc_pst | with_reducible exact tc_pf | with_reducible exact tcn_int | with_reducible exact tc_nodes | with_reducible exact tc_node | with_reducible exact tc_ints | with_reducible exact tcn_kind | with_reducible exact tcn_i64 | with_reducible exact tcn_str | with_reducible exact tcn_bool | with_reducible exact tc_str | with_reducible exact tc_int | with_reducible exact tc_kind | with_reducible exact tc_tok | with_reducible exact tc_u8s | with_reducible exact tc_toks | with_reducible exact tc_strs | with_reducible exact tc_bool | with_reducible exact tc_err | with_reducible exact tc_i64); exact rfl; exact rfl)
            | (apply w1; exact rfl; exact rfl)
            | (refine w0' ?_)
            | (apply aStore; exact rfl; exact rfl; exact rfl; exact (by first | with_reducible exact tc_bind | with_reducible exact tc_m51 | with_reducible exact tc_m68 | with_reducible exact tc_pst | with_reducible exact tc_pf | with_reducible exact tcn_int | with_reducible exact tc_nodes | with_reducible exact tc_node | with_reducible exact tc_ints | with_reducible exact tcn_kind | with_reducible exact tcn_i64 | with_reducible exact tcn_str | with_reducible exact tcn_bool | with_reducible exact tc_str | with_reducible exact tc_int | with_reducible exact tc_kind | with_reducible exact tc_tok | with_reducible exact tc_u8s | with_reducible exact tc_toks | with_reducible exact tc_strs | with_reducible exact tc_bool | with_reducible exact tc_err | with_reducible exact tc_i64); exact rfl; exact rfl; exact rfl; exact rfl)
            | (apply awp_condT; exact rfl)
            | (apply awp_condF; exact rfl)
            | refine awp_block ?_
            | refine awp_skip ?_
            | refine eb_n ?_
          all_goals try omega
          exact ⟨i + 1, ⟨by omega, fun j u hj hu => by
            rcases Nat.lt_or_ge j i with h1 | h1
            · exact hi2 j u h1 hu
            · rw [show j = i by omega, hv] at hu; injection hu with hu; subst hu; exact hr⟩, by omega, Fits_mk (Le_cons rfl (Le_cons rfl Le_nil)) Pre_nil rfl rfl⟩
        · have hr : rightN v = false := by
            simp only [rightN, hk, t1, arrT, intT, texT, refT]; simp; omega
          have hz : bl false = bl (okT L) := by rw [okT_not hv hr]
          repeat' first
            | refine en_n ?_
            | refine awp_seq ?_
            | refine awp_region ?_
            | refine alex_nil ?_
            | refine w0 ?_
            | (apply kU (hd := rfl); exact rfl; exact rfl)
            | (apply k1u (hd := rfl); exact rfl; exact rfl)
            | (apply k0u (hd := rfl); exact rfl; exact rfl)
            | (apply Y_lssT; exact rfl; exact rfl; first | assumption | omega)
            | (apply Y_eqlF; exact rfl; exact rfl; first | assumption | omega)
            | (apply Y_neqT; exact rfl; exact rfl; first | assumption | omega)
            | (apply Y_strT; exact rfl; exact rfl; exact t1)
            | (refine Y_eqsF (by rw [t1]; decide) rfl rfl)
            | (apply Y_buildD; exact pl_tok; exact zo_tok; exact PD_d rfl rfl (PD_d rfl rfl PD_nil); exact rfl)
            | (refine Y_call hb_rRight3 hR (CoL_d rfl CoL_nil))
            | (apply aJ (hd := rfl); (first | exact Co_dd rfl | exact Co_bb rfl rfl rfl | exact Co_nn rfl); exact rfl; exact (by first | with_reducible exact es_binds | with_reducible exact es_nodes | with_reducible exact es_ints | with_reducible exact es_nodess | with_reducible exact es_toks | with_reducible exact es_strs | with_reducible exact es_u8s); assumption; omega; exact fun _ => rfl)
            | (apply aAlloc (hd := rfl) (hro := rfl); exact (by first | with_reducible exact zo_m68 | with_reducible exact zo_f24 | with_reducible exact zo_node | with_reducible exact zon_int | with_reducible exact zo_tok | with_reducible exact zo_int | with_reducible exact zo_i64))
            | apply ay (hd := rfl)
            | (apply Y_move_d; exact rfl)
            | (apply Y_assign_d; exact rfl)
            | (apply Y_load_r; exact rfl; exact (by first | with_reducible exact tc_bind | with_reducible exact tc_m51 | with_reducible exact tc_m68 | with_reducible exact tc_pst | with_reducible exact tc_pf | with_reducible exact tcn_int | with_reducible exact tc_nodes | with_reducible exact tc_node | with_reducible exact tc_ints | with_reducible exact tcn_kind | with_reducible exact tcn_i64 | with_reducible exact tcn_str | with_reducible exact tcn_bool | with_reducible exact tc_str | with_reducible exact tc_int | with_reducible exact tc_kind | with_reducible exact tc_tok | with_reducible exact tc_u8s | with_reducible exact tc_toks | with_reducible exact tc_strs | with_reducible exact tc_bool | with_reducible exact tc_err | with_reducible exact tc_i64); exact rfl)
            | (apply Y_len_m; exact rfl; exact (by first | with_reducible exact et_binds | with_reducible exact et_nodes | with_reducible exact et_ints | with_reducible exact et_nodess | with_reducible exact et_toks | with_reducible exact et_strs | with_reducible exact et_u8s))
            | (apply Y_eql; exact rfl; exact rfl)
            | (apply Y_neq; exact rfl; exact rfl)
            | (apply Y_not; exact rfl)
            | (apply Y_pick_t; exact rfl; exact rfl)
            | (apply Y_pick_f; exact rfl; exact rfl)
            | (apply Y_field_p; exact rfl; exact (by first | with_reducible exact fb_0 | with_reducible exact fb_1 | with_reducible exact fs_0 | with_reducible exact fs_1 | with_reducible exact fn_0 | with_reducible exact fn_1 | with_reducible exact fn_2 | with_reducible exact fn_3 | with_reducible exact fo_0 | with_reducible exact fo_1 | with_reducible exact fo_2 | with_reducible exact fo_3))
            | (apply Y_load_p; exact rfl; exact (by first | with_reducible exact tc_bind | with_reducible exact tc_m51 | with_reducible exact tc_m68 | with_reducible exact tc_pst | with_reducible exact tc_pf | with_reducible exact tcn_int | with_reducible exact tc_nodes | with_reducible exact tc_node | with_reducible exact tc_ints | with_reducible exact tcn_kind | with_reducible exact tcn_i64 | with_reducible exact tcn_str | with_reducible exact tcn_bool | with_reducible exact tc_str | with_reducible exact tc_int | with_reducible exact tc_kind | with_reducible exact tc_tok | with_reducible exact tc_u8s | with_reducible exact tc_toks | with_reducible exact tc_strs | with_reducible exact tc_bool | with_reducible exact tc_err | with_reducible exact tc_i64); exact rfl; exact rfl)
            | (apply w1; exact rfl; exact rfl)
            | (apply gD; exact rfl; exact rfl; (intro hb); rotate_left; (intro hb); rotate_right)
            | (refine w0' ?_)
            | (apply aStore; exact rfl; exact rfl; exact rfl; exact (by first | with_reducible exact tc_bind | with_reducible exact tc_m51 | with_reducible exact tc_m68 | with_reducible exact tc_pst | with_reducible exact tc_pf | with_reducible exact tcn_int | with_reducible exact tc_nodes | with_reducible exact tc_node | with_reducible exact tc_ints | with_reducible exact tcn_kind | with_reducible exact tcn_i64 | with_reducible exact tcn_str | with_reducible exact tcn_bool | with_reducible exact tc_str | with_reducible exact tc_int | with_reducible exact tc_kind | with_reducible exact tc_tok | with_reducible exact tc_u8s | with_reducible exact tc_toks | with_reducible exact tc_strs | with_reducible exact tc_bool | with_reducible exact tc_err | with_reducible exact tc_i64); exact rfl; exact rfl; exact rfl; exact rfl)
            | (apply awp_condT; exact rfl)
            | (apply awp_condF; exact rfl)
            | refine awp_block ?_
            | refine awp_skip ?_
            | refine awp_ret ?_
            | refine en_r ?_
            | refine eb_r ?_
            | refine rpost_ret ?_
            | (apply res1; exact rfl)
          all_goals try omega
          all_goals first | exact hz | (exfalso; omega)
      by_cases t2 : v.text = [105, 110, 116]
      · have hR := rRight_ok ⟨2, v.text, 0, 0⟩ (ht v (List.mem_of_getElem? hv))
        rw [show rightF ⟨2, v.text, 0, 0⟩ = false by rw [t2]; decide +kernel] at hR
        by_cases hg : v.kind = 32 ∧ v.num = 0 ∧ v.kids = 0
        · obtain ⟨g1, g2, g3⟩ := hg
          have hr : rightN v = true := by simp [rightN, g1, g2, g3, t2, arrT, intT, texT]
          repeat' first
            | refine en_n ?_
            | refine awp_seq ?_
            | refine awp_region ?_
            | refine alex_nil ?_
            | refine w0 ?_
            | (apply kU (hd := rfl); exact rfl; exact rfl)
            | (apply k1u (hd := rfl); exact rfl; exact rfl)
            | (apply k0u (hd := rfl); exact rfl; exact rfl)
            | (apply Y_lssT; exact rfl; exact rfl; first | assumption | omega)
            | (apply Y_eqlT; exact rfl; exact rfl; first | assumption | omega)
            | (apply Y_eqlF; exact rfl; exact rfl; first | assumption | omega)
            | (apply Y_neqF; exact rfl; exact rfl; first | assumption | omega)
            | (apply Y_strT; exact rfl; exact rfl; exact t2)
            | (refine Y_eqsF (by rw [t2]; decide) rfl rfl)
            | (apply Y_buildD; exact pl_tok; exact zo_tok; exact PD_d rfl rfl (PD_d rfl rfl PD_nil); exact rfl)
            | (refine Y_call hb_rRight3 hR (CoL_d rfl CoL_nil))
            | (apply aJ (hd := rfl); (first | exact Co_dd rfl | exact Co_bb rfl rfl rfl | exact Co_nn rfl); exact rfl; exact (by first | with_reducible exact es_binds | with_reducible exact es_nodes | with_reducible exact es_ints | with_reducible exact es_nodess | with_reducible exact es_toks | with_reducible exact es_strs | with_reducible exact es_u8s); assumption; omega; exact fun _ => rfl)
            | (apply aAlloc (hd := rfl) (hro := rfl); exact (by first | with_reducible exact zo_m68 | with_reducible exact zo_f24 | with_reducible exact zo_node | with_reducible exact zon_int | with_reducible exact zo_tok | with_reducible exact zo_int | with_reducible exact zo_i64))
            | apply ay (hd := rfl)
            | (apply Y_move_d; exact rfl)
            | (apply Y_assign_d; exact rfl)
            | (apply Y_load_r; exact rfl; exact (by first | with_reducible exact tc_bind | with_reducible exact tc_m51 | with_reducible exact tc_m68 | with_reducible exact tc_pst | with_reducible exact tc_pf | with_reducible exact tcn_int | with_reducible exact tc_nodes | with_reducible exact tc_node | with_reducible exact tc_ints | with_reducible exact tcn_kind | with_reducible exact tcn_i64 | with_reducible exact tcn_str | with_reducible exact tcn_bool | with_reducible exact tc_str | with_reducible exact tc_int | with_reducible exact tc_kind | with_reducible exact tc_tok | with_reducible exact tc_u8s | with_reducible exact tc_toks | with_reducible exact tc_strs | with_reducible exact tc_bool | with_reducible exact tc_err | with_reducible exact tc_i64); exact rfl)
            | (apply Y_len_m; exact rfl; exact (by first | with_reducible exact et_binds | with_reducible exact et_nodes | with_reducible exact et_ints | with_reducible exact et_nodess | with_reducible exact et_toks | with_reducible exact et_strs | with_reducible exact et_u8s))
            | (apply Y_add; exact rfl; exact rfl)
            | (apply Y_not; exact rfl)
            | (apply Y_pick_t; exact rfl; exact rfl)
            | (apply Y_pick_f; exact rfl; exact rfl)
            | (apply Y_field_p; exact rfl; exact (by first | with_reducible exact fb_0 | with_reducible exact fb_1 | with_reducible exact fs_0 | with_reducible exact fs_1 | with_reducible exact fn_0 | with_reducible exact fn_1 | with_reducible exact fn_2 | with_reducible exact fn_3 | with_reducible exact fo_0 | with_reducible exact fo_1 | with_reducible exact fo_2 | with_reducible exact fo_3))
            | (apply Y_load_p; exact rfl; exact (by first | with_reducible exact tc_bind | with_reducible exact tc_m51 | with_reducible exact tc_m68 | with_reducible exact tc_pst | with_reducible exact tc_pf | with_reducible exact tcn_int | with_reducible exact tc_nodes | with_reducible exact tc_node | with_reducible exact tc_ints | with_reducible exact tcn_kind | with_reducible exact tcn_i64 | with_reducible exact tcn_str | with_reducible exact tcn_bool | with_reducible exact tc_str | with_reducible exact tc_int | with_reducible exact tc_kind | with_reducible exact tc_tok | with_reducible exact tc_u8s | with_reducible exact tc_toks | with_reducible exact tc_strs | with_reducible exact tc_bool | with_reducible exact tc_err | with_reducible exact tc_i64); exact rfl; exact rfl)
            | (apply w1; exact rfl; exact rfl)
            | (refine w0' ?_)
            | (apply aStore; exact rfl; exact rfl; exact rfl; exact (by first | with_reducible exact tc_bind | with_reducible exact tc_m51 | with_reducible exact tc_m68 | with_reducible exact tc_pst | with_reducible exact tc_pf | with_reducible exact tcn_int | with_reducible exact tc_nodes | with_reducible exact tc_node | with_reducible exact tc_ints | with_reducible exact tcn_kind | with_reducible exact tcn_i64 | with_reducible exact tcn_str | with_reducible exact tcn_bool | with_reducible exact tc_str | with_reducible exact tc_int | with_reducible exact tc_kind | with_reducible exact tc_tok | with_reducible exact tc_u8s | with_reducible exact tc_toks | with_reducible exact tc_strs | with_reducible exact tc_bool | with_reducible exact tc_err | with_reducible exact tc_i64); exact rfl; exact rfl; exact rfl; exact rfl)
            | (apply awp_condT; exact rfl)
            | (apply awp_condF; exact rfl)
            | refine awp_block ?_
            | refine awp_skip ?_
            | refine eb_n ?_
          all_goals try omega
          exact ⟨i + 1, ⟨by omega, fun j u hj hu => by
            rcases Nat.lt_or_ge j i with h1 | h1
            · exact hi2 j u h1 hu
            · rw [show j = i by omega, hv] at hu; injection hu with hu; subst hu; exact hr⟩, by omega, Fits_mk (Le_cons rfl (Le_cons rfl Le_nil)) Pre_nil rfl rfl⟩
        · have hr : rightN v = false := by
            simp only [rightN, hk, t2, arrT, intT, texT, refT]; simp; omega
          have hz : bl false = bl (okT L) := by rw [okT_not hv hr]
          repeat' first
            | refine en_n ?_
            | refine awp_seq ?_
            | refine awp_region ?_
            | refine alex_nil ?_
            | refine w0 ?_
            | (apply kU (hd := rfl); exact rfl; exact rfl)
            | (apply k1u (hd := rfl); exact rfl; exact rfl)
            | (apply k0u (hd := rfl); exact rfl; exact rfl)
            | (apply Y_lssT; exact rfl; exact rfl; first | assumption | omega)
            | (apply Y_eqlF; exact rfl; exact rfl; first | assumption | omega)
            | (apply Y_neqT; exact rfl; exact rfl; first | assumption | omega)
            | (apply Y_strT; exact rfl; exact rfl; exact t2)
            | (refine Y_eqsF (by rw [t2]; decide) rfl rfl)
            | (apply Y_buildD; exact pl_tok; exact zo_tok; exact PD_d rfl rfl (PD_d rfl rfl PD_nil); exact rfl)
            | (refine Y_call hb_rRight3 hR (CoL_d rfl CoL_nil))
            | (apply aJ (hd := rfl); (first | exact Co_dd rfl | exact Co_bb rfl rfl rfl | exact Co_nn rfl); exact rfl; exact (by first | with_reducible exact es_binds | with_reducible exact es_nodes | with_reducible exact es_ints | with_reducible exact es_nodess | with_reducible exact es_toks | with_reducible exact es_strs | with_reducible exact es_u8s); assumption; omega; exact fun _ => rfl)
            | (apply aAlloc (hd := rfl) (hro := rfl); exact (by first | with_reducible exact zo_m68 | with_reducible exact zo_f24 | with_reducible exact zo_node | with_reducible exact zon_int | with_reducible exact zo_tok | with_reducible exact zo_int | with_reducible exact zo_i64))
            | apply ay (hd := rfl)
            | (apply Y_move_d; exact rfl)
            | (apply Y_assign_d; exact rfl)
            | (apply Y_load_r; exact rfl; exact (by first | with_reducible exact tc_bind | with_reducible exact tc_m51 | with_reducible exact tc_m68 | with_reducible exact tc_pst | with_reducible exact tc_pf | with_reducible exact tcn_int | with_reducible exact tc_nodes | with_reducible exact tc_node | with_reducible exact tc_ints | with_reducible exact tcn_kind | with_reducible exact tcn_i64 | with_reducible exact tcn_str | with_reducible exact tcn_bool | with_reducible exact tc_str | with_reducible exact tc_int | with_reducible exact tc_kind | with_reducible exact tc_tok | with_reducible exact tc_u8s | with_reducible exact tc_toks | with_reducible exact tc_strs | with_reducible exact tc_bool | with_reducible exact tc_err | with_reducible exact tc_i64); exact rfl)
            | (apply Y_len_m; exact rfl; exact (by first | with_reducible exact et_binds | with_reducible exact et_nodes | with_reducible exact et_ints | with_reducible exact et_nodess | with_reducible exact et_toks | with_reducible exact et_strs | with_reducible exact et_u8s))
            | (apply Y_eql; exact rfl; exact rfl)
            | (apply Y_neq; exact rfl; exact rfl)
            | (apply Y_not; exact rfl)
            | (apply Y_pick_t; exact rfl; exact rfl)
            | (apply Y_pick_f; exact rfl; exact rfl)
            | (apply Y_field_p; exact rfl; exact (by first | with_reducible exact fb_0 | with_reducible exact fb_1 | with_reducible exact fs_0 | with_reducible exact fs_1 | with_reducible exact fn_0 | with_reducible exact fn_1 | with_reducible exact fn_2 | with_reducible exact fn_3 | with_reducible exact fo_0 | with_reducible exact fo_1 | with_reducible exact fo_2 | with_reducible exact fo_3))
            | (apply Y_load_p; exact rfl; exact (by first | with_reducible exact tc_bind | with_reducible exact tc_m51 | with_reducible exact tc_m68 | with_reducible exact tc_pst | with_reducible exact tc_pf | with_reducible exact tcn_int | with_reducible exact tc_nodes | with_reducible exact tc_node | with_reducible exact tc_ints | with_reducible exact tcn_kind | with_reducible exact tcn_i64 | with_reducible exact tcn_str | with_reducible exact tcn_bool | with_reducible exact tc_str | with_reducible exact tc_int | with_reducible exact tc_kind | with_reducible exact tc_tok | with_reducible exact tc_u8s | with_reducible exact tc_toks | with_reducible exact tc_strs | with_reducible exact tc_bool | with_reducible exact tc_err | with_reducible exact tc_i64); exact rfl; exact rfl)
            | (apply w1; exact rfl; exact rfl)
            | (apply gD; exact rfl; exact rfl; (intro hb); rotate_left; (intro hb); rotate_right)
            | (refine w0' ?_)
            | (apply aStore; exact rfl; exact rfl; exact rfl; exact (by first | with_reducible exact tc_bind | with_reducible exact tc_m51 | with_reducible exact tc_m68 | with_reducible exact tc_pst | with_reducible exact tc_pf | with_reducible exact tcn_int | with_reducible exact tc_nodes | with_reducible exact tc_node | with_reducible exact tc_ints | with_reducible exact tcn_kind | with_reducible exact tcn_i64 | with_reducible exact tcn_str | with_reducible exact tcn_bool | with_reducible exact tc_str | with_reducible exact tc_int | with_reducible exact tc_kind | with_reducible exact tc_tok | with_reducible exact tc_u8s | with_reducible exact tc_toks | with_reducible exact tc_strs | with_reducible exact tc_bool | with_reducible exact tc_err | with_reducible exact tc_i64); exact rfl; exact rfl; exact rfl; exact rfl)
            | (apply awp_condT; exact rfl)
            | (apply awp_condF; exact rfl)
            | refine awp_block ?_
            | refine awp_skip ?_
            | refine awp_ret ?_
            | refine en_r ?_
            | refine eb_r ?_
            | refine rpost_ret ?_
            | (apply res1; exact rfl)
          all_goals try omega
          all_goals first | exact hz | (exfalso; omega)
      by_cases t3 : v.text = [116, 101, 120, 116]
      · have hR := rRight_ok ⟨2, v.text, 0, 0⟩ (ht v (List.mem_of_getElem? hv))
        rw [show rightF ⟨2, v.text, 0, 0⟩ = false by rw [t3]; decide +kernel] at hR
        by_cases hg : v.kind = 32 ∧ v.num = 0 ∧ v.kids = 0
        · obtain ⟨g1, g2, g3⟩ := hg
          have hr : rightN v = true := by simp [rightN, g1, g2, g3, t3, arrT, intT, texT]
          repeat' first
            | refine en_n ?_
            | refine awp_seq ?_
            | refine awp_region ?_
            | refine alex_nil ?_
            | refine w0 ?_
            | (apply kU (hd := rfl); exact rfl; exact rfl)
            | (apply k1u (hd := rfl); exact rfl; exact rfl)
            | (apply k0u (hd := rfl); exact rfl; exact rfl)
            | (apply Y_lssT; exact rfl; exact rfl; first | assumption | omega)
            | (apply Y_eqlT; exact rfl; exact rfl; first | assumption | omega)
            | (apply Y_eqlF; exact rfl; exact rfl; first | assumption | omega)
            | (apply Y_neqF; exact rfl; exact rfl; first | assumption | omega)
            | (apply Y_strT; exact rfl; exact rfl; exact t3)
            | (refine Y_eqsF (by rw [t3]; decide) rfl rfl)
            | (apply Y_buildD; exact pl_tok; exact zo_tok; exact PD_d rfl rfl (PD_d rfl rfl PD_nil); exact rfl)
            | (refine Y_call hb_rRight3 hR (CoL_d rfl CoL_nil))
            | (apply aJ (hd := rfl); (first | exact Co_dd rfl | exact Co_bb rfl rfl rfl | exact Co_nn rfl); exact rfl; exact (by first | with_reducible exact es_binds | with_reducible exact es_nodes | with_reducible exact es_ints | with_reducible exact es_nodess | with_reducible exact es_toks | with_reducible exact es_strs | with_reducible exact es_u8s); assumption; omega; exact fun _ => rfl)
            | (apply aAlloc (hd := rfl) (hro := rfl); exact (by first | with_reducible exact zo_m68 | with_reducible exact zo_f24 | with_reducible exact zo_node | with_reducible exact zon_int | with_reducible exact zo_tok | with_reducible exact zo_int | with_reducible exact zo_i64))
            | apply ay (hd := rfl)
            | (apply Y_move_d; exact rfl)
            | (apply Y_assign_d; exact rfl)
            | (apply Y_load_r; exact rfl; exact (by first | with_reducible exact tc_bind | with_reducible exact tc_m51 | with_reducible exact tc_m68 | with_reducible exact tc_pst | with_reducible exact tc_pf | with_reducible exact tcn_int | with_reducible exact tc_nodes | with_reducible exact tc_node | with_reducible exact tc_ints | with_reducible exact tcn_kind | with_reducible exact tcn_i64 | with_reducible exact tcn_str | with_reducible exact tcn_bool | with_reducible exact tc_str | with_reducible exact tc_int | with_reducible exact tc_kind | with_reducible exact tc_tok | with_reducible exact tc_u8s | with_reducible exact tc_toks | with_reducible exact tc_strs | with_reducible exact tc_bool | with_reducible exact tc_err | with_reducible exact tc_i64); exact rfl)
            | (apply Y_len_m; exact rfl; exact (by first | with_reducible exact et_binds | with_reducible exact et_nodes | with_reducible exact et_ints | with_reducible exact et_nodess | with_reducible exact et_toks | with_reducible exact et_strs | with_reducible exact et_u8s))
            | (apply Y_add; exact rfl; exact rfl)
            | (apply Y_not; exact rfl)
            | (apply Y_pick_t; exact rfl; exact rfl)
            | (apply Y_pick_f; exact rfl; exact rfl)
            | (apply Y_field_p; exact rfl; exact (by first | with_reducible exact fb_0 | with_reducible exact fb_1 | with_reducible exact fs_0 | with_reducible exact fs_1 | with_reducible exact fn_0 | with_reducible exact fn_1 | with_reducible exact fn_2 | with_reducible exact fn_3 | with_reducible exact fo_0 | with_reducible exact fo_1 | with_reducible exact fo_2 | with_reducible exact fo_3))
            | (apply Y_load_p; exact rfl; exact (by first | with_reducible exact tc_bind | with_reducible exact tc_m51 | with_reducible exact tc_m68 | with_reducible exact tc_pst | with_reducible exact tc_pf | with_reducible exact tcn_int | with_reducible exact tc_nodes | with_reducible exact tc_node | with_reducible exact tc_ints | with_reducible exact tcn_kind | with_reducible exact tcn_i64 | with_reducible exact tcn_str | with_reducible exact tcn_bool | with_reducible exact tc_str | with_reducible exact tc_int | with_reducible exact tc_kind | with_reducible exact tc_tok | with_reducible exact tc_u8s | with_reducible exact tc_toks | with_reducible exact tc_strs | with_reducible exact tc_bool | with_reducible exact tc_err | with_reducible exact tc_i64); exact rfl; exact rfl)
            | (apply w1; exact rfl; exact rfl)
            | (refine w0' ?_)
            | (apply aStore; exact rfl; exact rfl; exact rfl; exact (by first | with_reducible exact tc_bind | with_reducible exact tc_m51 | with_reducible exact tc_m68 | with_reducible exact tc_pst | with_reducible exact tc_pf | with_reducible exact tcn_int | with_reducible exact tc_nodes | with_reducible exact tc_node | with_reducible exact tc_ints | with_reducible exact tcn_kind | with_reducible exact tcn_i64 | with_reducible exact tcn_str | with_reducible exact tcn_bool | with_reducible exact tc_str | with_reducible exact tc_int | with_reducible exact tc_kind | with_reducible exact tc_tok | with_reducible exact tc_u8s | with_reducible exact tc_toks | with_reducible exact tc_strs | with_reducible exact tc_bool | with_reducible exact tc_err | with_reducible exact tc_i64); exact rfl; exact rfl; exact rfl; exact rfl)
            | (apply awp_condT; exact rfl)
            | (apply awp_condF; exact rfl)
            | refine awp_block ?_
            | refine awp_skip ?_
            | refine eb_n ?_
          all_goals try omega
          exact ⟨i + 1, ⟨by omega, fun j u hj hu => by
            rcases Nat.lt_or_ge j i with h1 | h1
            · exact hi2 j u h1 hu
            · rw [show j = i by omega, hv] at hu; injection hu with hu; subst hu; exact hr⟩, by omega, Fits_mk (Le_cons rfl (Le_cons rfl Le_nil)) Pre_nil rfl rfl⟩
        · have hr : rightN v = false := by
            simp only [rightN, hk, t3, arrT, intT, texT, refT]; simp; omega
          have hz : bl false = bl (okT L) := by rw [okT_not hv hr]
          repeat' first
            | refine en_n ?_
            | refine awp_seq ?_
            | refine awp_region ?_
            | refine alex_nil ?_
            | refine w0 ?_
            | (apply kU (hd := rfl); exact rfl; exact rfl)
            | (apply k1u (hd := rfl); exact rfl; exact rfl)
            | (apply k0u (hd := rfl); exact rfl; exact rfl)
            | (apply Y_lssT; exact rfl; exact rfl; first | assumption | omega)
            | (apply Y_eqlF; exact rfl; exact rfl; first | assumption | omega)
            | (apply Y_neqT; exact rfl; exact rfl; first | assumption | omega)
            | (apply Y_strT; exact rfl; exact rfl; exact t3)
            | (refine Y_eqsF (by rw [t3]; decide) rfl rfl)
            | (apply Y_buildD; exact pl_tok; exact zo_tok; exact PD_d rfl rfl (PD_d rfl rfl PD_nil); exact rfl)
            | (refine Y_call hb_rRight3 hR (CoL_d rfl CoL_nil))
            | (apply aJ (hd := rfl); (first | exact Co_dd rfl | exact Co_bb rfl rfl rfl | exact Co_nn rfl); exact rfl; exact (by first | with_reducible exact es_binds | with_reducible exact es_nodes | with_reducible exact es_ints | with_reducible exact es_nodess | with_reducible exact es_toks | with_reducible exact es_strs | with_reducible exact es_u8s); assumption; omega; exact fun _ => rfl)
            | (apply aAlloc (hd := rfl) (hro := rfl); exact (by first | with_reducible exact zo_m68 | with_reducible exact zo_f24 | with_reducible exact zo_node | with_reducible exact zon_int | with_reducible exact zo_tok | with_reducible exact zo_int | with_reducible exact zo_i64))
            | apply ay (hd := rfl)
            | (apply Y_move_d; exact rfl)
            | (apply Y_assign_d; exact rfl)
            | (apply Y_load_r; exact rfl; exact (by first | with_reducible exact tc_bind | with_reducible exact tc_m51 | with_reducible exact tc_m68 | with_reducible exact tc_pst | with_reducible exact tc_pf | with_reducible exact tcn_int | with_reducible exact tc_nodes | with_reducible exact tc_node | with_reducible exact tc_ints | with_reducible exact tcn_kind | with_reducible exact tcn_i64 | with_reducible exact tcn_str | with_reducible exact tcn_bool | with_reducible exact tc_str | with_reducible exact tc_int | with_reducible exact tc_kind | with_reducible exact tc_tok | with_reducible exact tc_u8s | with_reducible exact tc_toks | with_reducible exact tc_strs | with_reducible exact tc_bool | with_reducible exact tc_err | with_reducible exact tc_i64); exact rfl)
            | (apply Y_len_m; exact rfl; exact (by first | with_reducible exact et_binds | with_reducible exact et_nodes | with_reducible exact et_ints | with_reducible exact et_nodess | with_reducible exact et_toks | with_reducible exact et_strs | with_reducible exact et_u8s))
            | (apply Y_eql; exact rfl; exact rfl)
            | (apply Y_neq; exact rfl; exact rfl)
            | (apply Y_not; exact rfl)
            | (apply Y_pick_t; exact rfl; exact rfl)
            | (apply Y_pick_f; exact rfl; exact rfl)
            | (apply Y_field_p; exact rfl; exact (by first | with_reducible exact fb_0 | with_reducible exact fb_1 | with_reducible exact fs_0 | with_reducible exact fs_1 | with_reducible exact fn_0 | with_reducible exact fn_1 | with_reducible exact fn_2 | with_reducible exact fn_3 | with_reducible exact fo_0 | with_reducible exact fo_1 | with_reducible exact fo_2 | with_reducible exact fo_3))
            | (apply Y_load_p; exact rfl; exact (by first | with_reducible exact tc_bind | with_reducible exact tc_m51 | with_reducible exact tc_m68 | with_reducible exact tc_pst | with_reducible exact tc_pf | with_reducible exact tcn_int | with_reducible exact tc_nodes | with_reducible exact tc_node | with_reducible exact tc_ints | with_reducible exact tcn_kind | with_reducible exact tcn_i64 | with_reducible exact tcn_str | with_reducible exact tcn_bool | with_reducible exact tc_str | with_reducible exact tc_int | with_reducible exact tc_kind | with_reducible exact tc_tok | with_reducible exact tc_u8s | with_reducible exact tc_toks | with_reducible exact tc_strs | with_reducible exact tc_bool | with_reducible exact tc_err | with_reducible exact tc_i64); exact rfl; exact rfl)
            | (apply w1; exact rfl; exact rfl)
            | (apply gD; exact rfl; exact rfl; (intro hb); rotate_left; (intro hb); rotate_right)
            | (refine w0' ?_)
            | (apply aStore; exact rfl; exact rfl; exact rfl; exact (by first | with_reducible exact tc_bind | with_reducible exact tc_m51 | with_reducible exact tc_m68 | with_reducible exact tc_pst | with_reducible exact tc_pf | with_reducible exact tcn_int | with_reducible exact tc_nodes | with_reducible exact tc_node | with_reducible exact tc_ints | with_reducible exact tcn_kind | with_reducible exact tcn_i64 | with_reducible exact tcn_str | with_reducible exact tcn_bool | with_reducible exact tc_str | with_reducible exact tc_int | with_reducible exact tc_kind | with_reducible exact tc_tok | with_reducible exact tc_u8s | with_reducible exact tc_toks | with_reducible exact tc_strs | with_reducible exact tc_bool | with_reducible exact tc_err | with_reducible exact tc_i64); exact rfl; exact rfl; exact rfl; exact rfl)
            | (apply awp_condT; exact rfl)
            | (apply awp_condF; exact rfl)
            | refine awp_block ?_
            | refine awp_skip ?_
            | refine awp_ret ?_
            | refine en_r ?_
            | refine eb_r ?_
            | refine rpost_ret ?_
            | (apply res1; exact rfl)
          all_goals try omega
          all_goals first | exact hz | (exfalso; omega)
      by_cases t4 : v.text = [114, 101, 102]
      · have hR := rRight_ok ⟨2, v.text, 0, 0⟩ (ht v (List.mem_of_getElem? hv))
        rw [show rightF ⟨2, v.text, 0, 0⟩ = false by rw [t4]; decide +kernel] at hR
        by_cases hg : v.kind = 32 ∧ v.num = 0 ∧ v.kids = 1
        · obtain ⟨g1, g2, g3⟩ := hg
          have hr : rightN v = true := by simp [rightN, g1, g2, g3, t4, arrT, intT, texT, refT]
          repeat' first
            | refine en_n ?_
            | refine awp_seq ?_
            | refine awp_region ?_
            | refine alex_nil ?_
            | refine w0 ?_
            | (apply k1u (hd := rfl); exact rfl; exact rfl)
            | (apply Y_lssT; exact rfl; exact rfl; first | assumption | omega)
            | (apply Y_eqlT; exact rfl; exact rfl; first | assumption | omega)
            | (apply Y_eqlF; exact rfl; exact rfl; first | assumption | omega)
            | (apply Y_neqF; exact rfl; exact rfl; first | assumption | omega)
            | (apply Y_strT; exact rfl; exact rfl; exact t4)
            | (refine Y_eqsF (by rw [t4]; decide) rfl rfl)
            | (apply Y_buildD; exact pl_tok; exact zo_tok; exact PD_d rfl rfl (PD_d rfl rfl PD_nil); exact rfl)
            | (refine Y_call hb_rRight3 hR (CoL_d rfl CoL_nil))
            | (apply aJ (hd := rfl); (first | exact Co_dd rfl | exact Co_bb rfl rfl rfl | exact Co_nn rfl); exact rfl; exact (by first | with_reducible exact es_binds | with_reducible exact es_nodes | with_reducible exact es_ints | with_reducible exact es_nodess | with_reducible exact es_toks | with_reducible exact es_strs | with_reducible exact es_u8s); assumption; omega; exact fun _ => rfl)
            | (apply aAlloc (hd := rfl) (hro := rfl); exact (by first | with_reducible exact zo_m68 | with_reducible exact zo_f24 | with_reducible exact zo_node | with_reducible exact zon_int | with_reducible exact zo_tok | with_reducible exact zo_int | with_reducible exact zo_i64))
            | apply ay (hd := rfl)
            | (apply Y_move_d; exact rfl)
            | (apply Y_assign_d; exact rfl)
            | (apply Y_load_r; exact rfl; exact (by first | with_reducible exact tc_bind | with_reducible exact tc_m51 | with_reducible exact tc_m68 | with_reducible exact tc_pst | with_reducible exact tc_pf | with_reducible exact tcn_int | with_reducible exact tc_nodes | with_reducible exact tc_node | with_reducible exact tc_ints | with_reducible exact tcn_kind | with_reducible exact tcn_i64 | with_reducible exact tcn_str | with_reducible exact tcn_bool | with_reducible exact tc_str | with_reducible exact tc_int | with_reducible exact tc_kind | with_reducible exact tc_tok | with_reducible exact tc_u8s | with_reducible exact tc_toks | with_reducible exact tc_strs | with_reducible exact tc_bool | with_reducible exact tc_err | with_reducible exact tc_i64); exact rfl)
            | (apply Y_len_m; exact rfl; exact (by first | with_reducible exact et_binds | with_reducible exact et_nodes | with_reducible exact et_ints | with_reducible exact et_nodess | with_reducible exact et_toks | with_reducible exact et_strs | with_reducible exact et_u8s))
            | (apply Y_add; exact rfl; exact rfl)
            | (apply Y_not; exact rfl)
            | (apply Y_pick_t; exact rfl; exact rfl)
            | (apply Y_pick_f; exact rfl; exact rfl)
            | (apply Y_field_p; exact rfl; exact (by first | with_reducible exact fb_0 | with_reducible exact fb_1 | with_reducible exact fs_0 | with_reducible exact fs_1 | with_reducible exact fn_0 | with_reducible exact fn_1 | with_reducible exact fn_2 | with_reducible exact fn_3 | with_reducible exact fo_0 | with_reducible exact fo_1 | with_reducible exact fo_2 | with_reducible exact fo_3))
            | (apply Y_load_p; exact rfl; exact (by first | with_reducible exact tc_bind | with_reducible exact tc_m51 | with_reducible exact tc_m68 | with_reducible exact tc_pst | with_reducible exact tc_pf | with_reducible exact tcn_int | with_reducible exact tc_nodes | with_reducible exact tc_node | with_reducible exact tc_ints | with_reducible exact tcn_kind | with_reducible exact tcn_i64 | with_reducible exact tcn_str | with_reducible exact tcn_bool | with_reducible exact tc_str | with_reducible exact tc_int | with_reducible exact tc_kind | with_reducible exact tc_tok | with_reducible exact tc_u8s | with_reducible exact tc_toks | with_reducible exact tc_strs | with_reducible exact tc_bool | with_reducible exact tc_err | with_reducible exact tc_i64); exact rfl; exact rfl)
            | (apply w1; exact rfl; exact rfl)
            | (refine w0' ?_)
            | (apply aStore; exact rfl; exact rfl; exact rfl; exact (by first | with_reducible exact tc_bind | with_reducible exact tc_m51 | with_reducible exact tc_m68 | with_reducible exact tc_pst | with_reducible exact tc_pf | with_reducible exact tcn_int | with_reducible exact tc_nodes | with_reducible exact tc_node | with_reducible exact tc_ints | with_reducible exact tcn_kind | with_reducible exact tcn_i64 | with_reducible exact tcn_str | with_reducible exact tcn_bool | with_reducible exact tc_str | with_reducible exact tc_int | with_reducible exact tc_kind | with_reducible exact tc_tok | with_reducible exact tc_u8s | with_reducible exact tc_toks | with_reducible exact tc_strs | with_reducible exact tc_bool | with_reducible exact tc_err | with_reducible exact tc_i64); exact rfl; exact rfl; exact rfl; exact rfl)
            | (apply awp_condT; exact rfl)
            | (apply awp_condF; exact rfl)
            | refine awp_block ?_
            | refine awp_skip ?_
            | refine eb_n ?_
          all_goals try omega
          exact ⟨i + 1, ⟨by omega, fun j u hj hu => by
            rcases Nat.lt_or_ge j i with h1 | h1
            · exact hi2 j u h1 hu
            · rw [show j = i by omega, hv] at hu; injection hu with hu; subst hu; exact hr⟩, by omega, Fits_mk (Le_cons rfl (Le_cons rfl Le_nil)) Pre_nil rfl rfl⟩
        · have hr : rightN v = false := by
            simp only [rightN, hk, t4, arrT, intT, texT, refT]; simp; omega
          have hz : bl false = bl (okT L) := by rw [okT_not hv hr]
          repeat' first
            | refine en_n ?_
            | refine awp_seq ?_
            | refine awp_region ?_
            | refine alex_nil ?_
            | refine w0 ?_
            | (apply kU (hd := rfl); exact rfl; exact rfl)
            | (apply k1u (hd := rfl); exact rfl; exact rfl)
            | (apply k0u (hd := rfl); exact rfl; exact rfl)
            | (apply Y_lssT; exact rfl; exact rfl; first | assumption | omega)
            | (apply Y_eqlF; exact rfl; exact rfl; first | assumption | omega)
            | (apply Y_strT; exact rfl; exact rfl; exact t4)
            | (refine Y_eqsF (by rw [t4]; decide) rfl rfl)
            | (apply Y_buildD; exact pl_tok; exact zo_tok; exact PD_d rfl rfl (PD_d rfl rfl PD_nil); exact rfl)
            | (refine Y_call hb_rRight3 hR (CoL_d rfl CoL_nil))
            | (apply aJ (hd := rfl); (first | exact Co_dd rfl | exact Co_bb rfl rfl rfl | exact Co_nn rfl); exact rfl; exact (by first | with_reducible exact es_binds | with_reducible exact es_nodes | with_reducible exact es_ints | with_reducible exact es_nodess | with_reducible exact es_toks | with_reducible exact es_strs | with_reducible exact es_u8s); assumption; omega; exact fun _ => rfl)
            | (apply aAlloc (hd := rfl) (hro := rfl); exact (by first | with_reducible exact zo_m68 | with_reducible exact zo_f24 | with_reducible exact zo_node | with_reducible exact zon_int | with_reducible exact zo_tok | with_reducible exact zo_int | with_reducible exact zo_i64))
            | apply ay (hd := rfl)
            | (apply Y_move_d; exact rfl)
            | (apply Y_assign_d; exact rfl)
            | (apply Y_load_r; exact rfl; exact (by first | with_reducible exact tc_bind | with_reducible exact tc_m51 | with_reducible exact tc_m68 | with_reducible exact tc_pst | with_reducible exact tc_pf | with_reducible exact tcn_int | with_reducible exact tc_nodes | with_reducible exact tc_node | with_reducible exact tc_ints | with_reducible exact tcn_kind | with_reducible exact tcn_i64 | with_reducible exact tcn_str | with_reducible exact tcn_bool | with_reducible exact tc_str | with_reducible exact tc_int | with_reducible exact tc_kind | with_reducible exact tc_tok | with_reducible exact tc_u8s | with_reducible exact tc_toks | with_reducible exact tc_strs | with_reducible exact tc_bool | with_reducible exact tc_err | with_reducible exact tc_i64); exact rfl)
            | (apply Y_len_m; exact rfl; exact (by first | with_reducible exact et_binds | with_reducible exact et_nodes | with_reducible exact et_ints | with_reducible exact et_nodess | with_reducible exact et_toks | with_reducible exact et_strs | with_reducible exact et_u8s))
            | (apply Y_eql; exact rfl; exact rfl)
            | (apply Y_neq; exact rfl; exact rfl)
            | (apply Y_add; exact rfl; exact rfl)
            | (apply Y_not; exact rfl)
            | (apply Y_pick_t; exact rfl; exact rfl)
            | (apply Y_pick_f; exact rfl; exact rfl)
            | (apply Y_field_p; exact rfl; exact (by first | with_reducible exact fb_0 | with_reducible exact fb_1 | with_reducible exact fs_0 | with_reducible exact fs_1 | with_reducible exact fn_0 | with_reducible exact fn_1 | with_reducible exact fn_2 | with_reducible exact fn_3 | with_reducible exact fo_0 | with_reducible exact fo_1 | with_reducible exact fo_2 | with_reducible exact fo_3))
            | (apply Y_load_p; exact rfl; exact (by first | with_reducible exact tc_bind | with_reducible exact tc_m51 | with_reducible exact tc_m68 | with_reducible exact tc_pst | with_reducible exact tc_pf | with_reducible exact tcn_int | with_reducible exact tc_nodes | with_reducible exact tc_node | with_reducible exact tc_ints | with_reducible exact tcn_kind | with_reducible exact tcn_i64 | with_reducible exact tcn_str | with_reducible exact tcn_bool | with_reducible exact tc_str | with_reducible exact tc_int | with_reducible exact tc_kind | with_reducible exact tc_tok | with_reducible exact tc_u8s | with_reducible exact tc_toks | with_reducible exact tc_strs | with_reducible exact tc_bool | with_reducible exact tc_err | with_reducible exact tc_i64); exact rfl; exact rfl)
            | (apply w1; exact rfl; exact rfl)
            | (apply gD; exact rfl; exact rfl; (intro hb); rotate_left; (intro hb); rotate_right)
            | (refine w0' ?_)
            | (apply aStore; exact rfl; exact rfl; exact rfl; exact (by first | with_reducible exact tc_bind | with_reducible exact tc_m51 | with_reducible exact tc_m68 | with_reducible exact tc_pst | with_reducible exact tc_pf | with_reducible exact tcn_int | with_reducible exact tc_nodes | with_reducible exact tc_node | with_reducible exact tc_ints | with_reducible exact tcn_kind | with_reducible exact tcn_i64 | with_reducible exact tcn_str | with_reducible exact tcn_bool | with_reducible exact tc_str | with_reducible exact tc_int | with_reducible exact tc_kind | with_reducible exact tc_tok | with_reducible exact tc_u8s | with_reducible exact tc_toks | with_reducible exact tc_strs | with_reducible exact tc_bool | with_reducible exact tc_err | with_reducible exact tc_i64); exact rfl; exact rfl; exact rfl; exact rfl)
            | (apply awp_condN; exact rfl; (intro hb); rotate_left; (intro hb); rotate_right)
            | (apply awp_condT; exact rfl)
            | (apply awp_condF; exact rfl)
            | refine awp_block ?_
            | refine awp_skip ?_
            | refine awp_ret ?_
            | refine en_r ?_
            | refine eb_n ?_
            | refine eb_r ?_
            | refine rpost_ret ?_
            | (apply res1; exact rfl)
          all_goals try omega
          all_goals first | exact hz | (exfalso; omega)
      have hR := rRight_ok ⟨2, v.text, 0, 0⟩ (ht v (List.mem_of_getElem? hv))
      by_cases hg : v.kind = 32 ∧ v.num = 0 ∧ rightF ⟨2, v.text, 0, 0⟩ = true ∧ v.kids ≤ 8
      · obtain ⟨g1, g2, g3, g4⟩ := hg
        have hr : rightN v = true := by simp [rightN, g1, g2, g3, g4, t1, t2, t3, t4, arrT, intT, texT, refT]
        rw [g3] at hR
        repeat' first
          | refine en_n ?_
          | refine awp_seq ?_
          | refine awp_region ?_
          | refine alex_nil ?_
          | refine w0 ?_
          | (apply k1u (hd := rfl); exact rfl; exact rfl)
          | (apply Y_lssT; exact rfl; exact rfl; first | assumption | omega)
          | (apply Y_leqT; exact rfl; exact rfl; first | assumption | omega)
          | (apply Y_eqlF; exact rfl; exact rfl; first | assumption | omega)
          | (apply Y_neqF; exact rfl; exact rfl; first | assumption | omega)
          | (refine Y_eqsF t1 rfl rfl)
          | (refine Y_eqsF t2 rfl rfl)
          | (refine Y_eqsF t3 rfl rfl)
          | (refine Y_eqsF t4 rfl rfl)
          | (apply Y_buildD; exact pl_tok; exact zo_tok; exact PD_d rfl rfl (PD_d rfl rfl PD_nil); exact rfl)
          | (refine Y_call hb_rRight3 hR (CoL_d rfl CoL_nil))
          | (apply aJ (hd := rfl); (first | exact Co_dd rfl | exact Co_bb rfl rfl rfl | exact Co_nn rfl); exact rfl; exact (by first | with_reducible exact es_binds | with_reducible exact es_nodes | with_reducible exact es_ints | with_reducible exact es_nodess | with_reducible exact es_toks | with_reducible exact es_strs | with_reducible exact es_u8s); assumption; omega; exact fun _ => rfl)
          | (apply aAlloc (hd := rfl) (hro := rfl); exact (by first | with_reducible exact zo_m68 | with_reducible exact zo_f24 | with_reducible exact zo_node | with_reducible exact zon_int | with_reducible exact zo_tok | with_reducible exact zo_int | with_reducible exact zo_i64))
          | apply ay (hd := rfl)
          | (apply Y_move_d; exact rfl)
          | (apply Y_assign_d; exact rfl)
          | (apply Y_load_r; exact rfl; exact (by first | with_reducible exact tc_bind | with_reducible exact tc_m51 | with_reducible exact tc_m68 | with_reducible exact tc_pst | with_reducible exact tc_pf | with_reducible exact tcn_int | with_reducible exact tc_nodes | with_reducible exact tc_node | with_reducible exact tc_ints | with_reducible exact tcn_kind | with_reducible exact tcn_i64 | with_reducible exact tcn_str | with_reducible exact tcn_bool | with_reducible exact tc_str | with_reducible exact tc_int | with_reducible exact tc_kind | with_reducible exact tc_tok | with_reducible exact tc_u8s | with_reducible exact tc_toks | with_reducible exact tc_strs | with_reducible exact tc_bool | with_reducible exact tc_err | with_reducible exact tc_i64); exact rfl)
          | (apply Y_len_m; exact rfl; exact (by first | with_reducible exact et_binds | with_reducible exact et_nodes | with_reducible exact et_ints | with_reducible exact et_nodess | with_reducible exact et_toks | with_reducible exact et_strs | with_reducible exact et_u8s))
          | (apply Y_add; exact rfl; exact rfl)
          | (apply Y_not; exact rfl)
          | (apply Y_pick_t; exact rfl; exact rfl)
          | (apply Y_pick_f; exact rfl; exact rfl)
          | (apply Y_field_p; exact rfl; exact (by first | with_reducible exact fb_0 | with_reducible exact fb_1 | with_reducible exact fs_0 | with_reducible exact fs_1 | with_reducible exact fn_0 | with_reducible exact fn_1 | with_reducible exact fn_2 | with_reducible exact fn_3 | with_reducible exact fo_0 | with_reducible exact fo_1 | with_reducible exact fo_2 | with_reducible exact fo_3))
          | (apply Y_load_p; exact rfl; exact (by first | with_reducible exact tc_bind | with_reducible exact tc_m51 | with_reducible exact tc_m68 | with_reducible exact tc_pst | with_reducible exact tc_pf | with_reducible exact tcn_int | with_reducible exact tc_nodes | with_reducible exact tc_node | with_reducible exact tc_ints | with_reducible exact tcn_kind | with_reducible exact tcn_i64 | with_reducible exact tcn_str | with_reducible exact tcn_bool | with_reducible exact tc_str | with_reducible exact tc_int | with_reducible exact tc_kind | with_reducible exact tc_tok | with_reducible exact tc_u8s | with_reducible exact tc_toks | with_reducible exact tc_strs | with_reducible exact tc_bool | with_reducible exact tc_err | with_reducible exact tc_i64); exact rfl; exact rfl)
          | (apply w1; exact rfl; exact rfl)
          | (refine w0' ?_)
          | (apply aStore; exact rfl; exact rfl; exact rfl; exact (by first | with_reducible exact tc_bind | with_reducible exact tc_m51 | with_reducible exact tc_m68 | with_reducible exact tc_pst | with_reducible exact tc_pf | with_reducible exact tcn_int | with_reducible exact tc_nodes | with_reducible exact tc_node | with_reducible exact tc_ints | with_reducible exact tcn_kind | with_reducible exact tcn_i64 | with_reducible exact tcn_str | with_reducible exact tcn_bool | with_reducible exact tc_str | with_reducible exact tc_int | with_reducible exact tc_kind | with_reducible exact tc_tok | with_reducible exact tc_u8s | with_reducible exact tc_toks | with_reducible exact tc_strs | with_reducible exact tc_bool | with_reducible exact tc_err | with_reducible exact tc_i64); exact rfl; exact rfl; exact rfl; exact rfl)
          | (apply awp_condT; exact rfl)
          | (apply awp_condF; exact rfl)
          | refine awp_block ?_
          | refine awp_skip ?_
          | refine eb_n ?_
        all_goals try omega
        exact ⟨i + 1, ⟨by omega, fun j u hj hu => by
            rcases Nat.lt_or_ge j i with h1 | h1
            · exact hi2 j u h1 hu
            · rw [show j = i by omega, hv] at hu; injection hu with hu; subst hu; exact hr⟩, by omega, Fits_mk (Le_cons rfl (Le_cons rfl Le_nil)) Pre_nil rfl rfl⟩
      · have hr : rightN v = false := by
          simp only [rightN, t1, t2, t3, t4, arrT, intT, texT, refT]
          by_cases c1 : v.kind = 32 <;> by_cases c2 : v.num = 0 <;> cases c3 : rightF ⟨2, v.text, 0, 0⟩ <;> simp_all
        have hz : bl false = bl (okT L) := by rw [okT_not hv hr]
        cases hq : rightF ⟨2, v.text, 0, 0⟩ with
        | false =>
          rw [hq] at hR
          repeat' first
            | refine en_n ?_
            | refine awp_seq ?_
            | refine awp_region ?_
            | refine alex_nil ?_
            | refine w0 ?_
            | (apply kU (hd := rfl); exact rfl; exact rfl)
            | (apply k1u (hd := rfl); exact rfl; exact rfl)
            | (apply k0u (hd := rfl); exact rfl; exact rfl)
            | (apply Y_lssT; exact rfl; exact rfl; first | assumption | omega)
            | (apply Y_eqlF; exact rfl; exact rfl; first | assumption | omega)
            | (refine Y_eqsF t1 rfl rfl)
            | (refine Y_eqsF t2 rfl rfl)
            | (refine Y_eqsF t3 rfl rfl)
            | (refine Y_eqsF t4 rfl rfl)
            | (apply Y_buildD; exact pl_tok; exact zo_tok; exact PD_d rfl rfl (PD_d rfl rfl PD_nil); exact rfl)
            | (refine Y_call hb_rRight3 hR (CoL_d rfl CoL_nil))
            | (apply aJ (hd := rfl); (first | exact Co_dd rfl | exact Co_bb rfl rfl rfl | exact Co_nn rfl); exact rfl; exact (by first | with_reducible exact es_binds | with_reducible exact es_nodes | with_reducible exact es_ints | with_reducible exact es_nodess | with_reducible exact es_toks | with_reducible exact es_strs | with_reducible exact es_u8s); assumption; omega; exact fun _ => rfl)
            | (apply aAlloc (hd := rfl) (hro := rfl); exact (by first | with_reducible exact zo_m68 | with_reducible exact zo_f24 | with_reducible exact zo_node | with_reducible exact zon_int | with_reducible exact zo_tok | with_reducible exact zo_int | with_reducible exact zo_i64))
            | apply ay (hd := rfl)
            | (apply Y_move_d; exact rfl)
            | (apply Y_assign_d; exact rfl)
            | (apply Y_load_r; exact rfl; exact (by first | with_reducible exact tc_bind | with_reducible exact tc_m51 | with_reducible exact tc_m68 | with_reducible exact tc_pst | with_reducible exact tc_pf | with_reducible exact tcn_int | with_reducible exact tc_nodes | with_reducible exact tc_node | with_reducible exact tc_ints | with_reducible exact tcn_kind | with_reducible exact tcn_i64 | with_reducible exact tcn_str | with_reducible exact tcn_bool | with_reducible exact tc_str | with_reducible exact tc_int | with_reducible exact tc_kind | with_reducible exact tc_tok | with_reducible exact tc_u8s | with_reducible exact tc_toks | with_reducible exact tc_strs | with_reducible exact tc_bool | with_reducible exact tc_err | with_reducible exact tc_i64); exact rfl)
            | (apply Y_len_m; exact rfl; exact (by first | with_reducible exact et_binds | with_reducible exact et_nodes | with_reducible exact et_ints | with_reducible exact et_nodess | with_reducible exact et_toks | with_reducible exact et_strs | with_reducible exact et_u8s))
            | (apply Y_neq; exact rfl; exact rfl)
            | (apply Y_not; exact rfl)
            | (apply Y_pick_t; exact rfl; exact rfl)
            | (apply Y_pick_f; exact rfl; exact rfl)
            | (apply Y_field_p; exact rfl; exact (by first | with_reducible exact fb_0 | with_reducible exact fb_1 | with_reducible exact fs_0 | with_reducible exact fs_1 | with_reducible exact fn_0 | with_reducible exact fn_1 | with_reducible exact fn_2 | with_reducible exact fn_3 | with_reducible exact fo_0 | with_reducible exact fo_1 | with_reducible exact fo_2 | with_reducible exact fo_3))
            | (apply Y_load_p; exact rfl; exact (by first | with_reducible exact tc_bind | with_reducible exact tc_m51 | with_reducible exact tc_m68 | with_reducible exact tc_pst | with_reducible exact tc_pf | with_reducible exact tcn_int | with_reducible exact tc_nodes | with_reducible exact tc_node | with_reducible exact tc_ints | with_reducible exact tcn_kind | with_reducible exact tcn_i64 | with_reducible exact tcn_str | with_reducible exact tcn_bool | with_reducible exact tc_str | with_reducible exact tc_int | with_reducible exact tc_kind | with_reducible exact tc_tok | with_reducible exact tc_u8s | with_reducible exact tc_toks | with_reducible exact tc_strs | with_reducible exact tc_bool | with_reducible exact tc_err | with_reducible exact tc_i64); exact rfl; exact rfl)
            | (apply w1; exact rfl; exact rfl)
            | (apply gD; exact rfl; exact rfl; (intro hb); rotate_left; (intro hb); rotate_right)
            | (refine w0' ?_)
            | (apply aStore; exact rfl; exact rfl; exact rfl; exact (by first | with_reducible exact tc_bind | with_reducible exact tc_m51 | with_reducible exact tc_m68 | with_reducible exact tc_pst | with_reducible exact tc_pf | with_reducible exact tcn_int | with_reducible exact tc_nodes | with_reducible exact tc_node | with_reducible exact tc_ints | with_reducible exact tcn_kind | with_reducible exact tcn_i64 | with_reducible exact tcn_str | with_reducible exact tcn_bool | with_reducible exact tc_str | with_reducible exact tc_int | with_reducible exact tc_kind | with_reducible exact tc_tok | with_reducible exact tc_u8s | with_reducible exact tc_toks | with_reducible exact tc_strs | with_reducible exact tc_bool | with_reducible exact tc_err | with_reducible exact tc_i64); exact rfl; exact rfl; exact rfl; exact rfl)
            | (apply awp_condT; exact rfl)
            | (apply awp_condF; exact rfl)
            | refine awp_block ?_
            | refine awp_skip ?_
            | refine awp_ret ?_
            | refine en_r ?_
            | refine eb_r ?_
            | refine rpost_ret ?_
            | (apply res1; exact rfl)
          all_goals try omega
          all_goals first | exact hz | (exfalso; omega)
        | true =>
          rw [hq] at hR
          repeat' first
            | refine en_n ?_
            | refine awp_seq ?_
            | refine awp_region ?_
            | refine alex_nil ?_
            | refine w0 ?_
            | (apply kU (hd := rfl); exact rfl; exact rfl)
            | (apply k1u (hd := rfl); exact rfl; exact rfl)
            | (apply k0u (hd := rfl); exact rfl; exact rfl)
            | (apply Y_lssT; exact rfl; exact rfl; first | assumption | omega)
            | (apply Y_eqlF; exact rfl; exact rfl; first | assumption | omega)
            | (refine Y_eqsF t1 rfl rfl)
            | (refine Y_eqsF t2 rfl rfl)
            | (refine Y_eqsF t3 rfl rfl)
            | (refine Y_eqsF t4 rfl rfl)
            | (apply Y_buildD; exact pl_tok; exact zo_tok; exact PD_d rfl rfl (PD_d rfl rfl PD_nil); exact rfl)
            | (refine Y_call hb_rRight3 hR (CoL_d rfl CoL_nil))
            | (apply aJ (hd := rfl); (first | exact Co_dd rfl | exact Co_bb rfl rfl rfl | exact Co_nn rfl); exact rfl; exact (by first | with_reducible exact es_binds | with_reducible exact es_nodes | with_reducible exact es_ints | with_reducible exact es_nodess | with_reducible exact es_toks | with_reducible exact es_strs | with_reducible exact es_u8s); assumption; omega; exact fun _ => rfl)
            | (apply aAlloc (hd := rfl) (hro := rfl); exact (by first | with_reducible exact zo_m68 | with_reducible exact zo_f24 | with_reducible exact zo_node | with_reducible exact zon_int | with_reducible exact zo_tok | with_reducible exact zo_int | with_reducible exact zo_i64))
            | apply ay (hd := rfl)
            | (apply Y_move_d; exact rfl)
            | (apply Y_assign_d; exact rfl)
            | (apply Y_load_r; exact rfl; exact (by first | with_reducible exact tc_bind | with_reducible exact tc_m51 | with_reducible exact tc_m68 | with_reducible exact tc_pst | with_reducible exact tc_pf | with_reducible exact tcn_int | with_reducible exact tc_nodes | with_reducible exact tc_node | with_reducible exact tc_ints | with_reducible exact tcn_kind | with_reducible exact tcn_i64 | with_reducible exact tcn_str | with_reducible exact tcn_bool | with_reducible exact tc_str | with_reducible exact tc_int | with_reducible exact tc_kind | with_reducible exact tc_tok | with_reducible exact tc_u8s | with_reducible exact tc_toks | with_reducible exact tc_strs | with_reducible exact tc_bool | with_reducible exact tc_err | with_reducible exact tc_i64); exact rfl)
            | (apply Y_len_m; exact rfl; exact (by first | with_reducible exact et_binds | with_reducible exact et_nodes | with_reducible exact et_ints | with_reducible exact et_nodess | with_reducible exact et_toks | with_reducible exact et_strs | with_reducible exact et_u8s))
            | (apply Y_leq; exact rfl; exact rfl)
            | (apply Y_neq; exact rfl; exact rfl)
            | (apply Y_add; exact rfl; exact rfl)
            | (apply Y_not; exact rfl)
            | (apply Y_pick_t; exact rfl; exact rfl)
            | (apply Y_pick_f; exact rfl; exact rfl)
            | (apply Y_field_p; exact rfl; exact (by first | with_reducible exact fb_0 | with_reducible exact fb_1 | with_reducible exact fs_0 | with_reducible exact fs_1 | with_reducible exact fn_0 | with_reducible exact fn_1 | with_reducible exact fn_2 | with_reducible exact fn_3 | with_reducible exact fo_0 | with_reducible exact fo_1 | with_reducible exact fo_2 | with_reducible exact fo_3))
            | (apply Y_load_p; exact rfl; exact (by first | with_reducible exact tc_bind | with_reducible exact tc_m51 | with_reducible exact tc_m68 | with_reducible exact tc_pst | with_reducible exact tc_pf | with_reducible exact tcn_int | with_reducible exact tc_nodes | with_reducible exact tc_node | with_reducible exact tc_ints | with_reducible exact tcn_kind | with_reducible exact tcn_i64 | with_reducible exact tcn_str | with_reducible exact tcn_bool | with_reducible exact tc_str | with_reducible exact tc_int | with_reducible exact tc_kind | with_reducible exact tc_tok | with_reducible exact tc_u8s | with_reducible exact tc_toks | with_reducible exact tc_strs | with_reducible exact tc_bool | with_reducible exact tc_err | with_reducible exact tc_i64); exact rfl; exact rfl)
            | (apply w1; exact rfl; exact rfl)
            | (apply gD; exact rfl; exact rfl; (intro hb); rotate_left; (intro hb); rotate_right)
            | (apply gN; exact rfl; exact rfl; (intro hb); rotate_left; (intro hb); rotate_right)
            | (refine w0' ?_)
            | (apply aStore; exact rfl; exact rfl; exact rfl; exact (by first | with_reducible exact tc_bind | with_reducible exact tc_m51 | with_reducible exact tc_m68 | with_reducible exact tc_pst | with_reducible exact tc_pf | with_reducible exact tcn_int | with_reducible exact tc_nodes | with_reducible exact tc_node | with_reducible exact tc_ints | with_reducible exact tcn_kind | with_reducible exact tcn_i64 | with_reducible exact tcn_str | with_reducible exact tcn_bool | with_reducible exact tc_str | with_reducible exact tc_int | with_reducible exact tc_kind | with_reducible exact tc_tok | with_reducible exact tc_u8s | with_reducible exact tc_toks | with_reducible exact tc_strs | with_reducible exact tc_bool | with_reducible exact tc_err | with_reducible exact tc_i64); exact rfl; exact rfl; exact rfl; exact rfl)
            | (apply awp_condT; exact rfl)
            | (apply awp_condF; exact rfl)
            | refine awp_block ?_
            | refine awp_skip ?_
            | refine awp_ret ?_
            | refine en_r ?_
            | refine eb_n ?_
            | refine eb_r ?_
            | refine rpost_ret ?_
            | (apply res1; exact rfl)
          all_goals try omega
          all_goals first | exact hz | (exfalso; apply hg; exact ⟨by omega, by omega, hq, by omega⟩)
    · have hli : ¬ (i : Int) < (L.length : Int) := by omega
      repeat' first
        | refine en_n ?_
        | refine awp_seq ?_
        | refine awp_region ?_
        | refine alex_nil ?_
        | refine w0 ?_
        | (apply Y_lssF; exact rfl; exact rfl; first | assumption | omega)
        | apply ay (hd := rfl)
        | (apply Y_move_d; exact rfl)
        | (apply Y_assign_d; exact rfl)
        | (apply Y_len_m; exact rfl; exact (by first | with_reducible exact et_binds | with_reducible exact et_nodes | with_reducible exact et_ints | with_reducible exact et_nodess | with_reducible exact et_toks | with_reducible exact et_strs | with_reducible exact et_u8s))
        | (apply awp_condF; exact rfl)
        | refine awp_ret ?_
        | refine awp_exit ?_
        | refine en_e ?_
        | refine eb_e ?_
        | refine rpost_ret ?_
        | (apply res1; exact rfl)
      refine bl_is ?_
      symm
      refine okT_is.2 ⟨hlen, hwh, List.all_eq_true.2 fun x hx => ?_⟩
      obtain ⟨j, hj⟩ := List.mem_iff_getElem?.1 hx
      exact hi2 j x (by have := (List.getElem?_eq_some_iff.1 hj).1; omega) hj
end Go.Proofs.YtamhkcnpocdfcaaGreatDoor
/- The statements on types: the document's text of a type, and the program's, are the same. -/
namespace Go.Proofs.YtamhkcnpocdfcaaGreatDoor
open Go.Sx
theorem pickU {P : Nat → List UInt8 → Prop} {k : Nat} (h : ∀ i, i < k → ∃ u, P i u) : ∃ U : Nat → List UInt8, ∀ i, i < k → P i (U i) := by
  refine ⟨fun i => if hi : i < k then Classical.choose (h i hi) else [], fun i hi => ?_⟩
  simp only [hi, dif_pos]
  exact Classical.choose_spec (h i hi)
theorem Ev.upto {P : Nat → Nat → Prop} : ∀ {k : Nat}, (∀ i, i < k → Ev (P i)) → Ev fun m => ∀ i, i < k → P i m
  | 0, _ => .all fun _ _ h => absurd h (by omega)
  | k + 1, h => by
    refine ((Ev.upto (k := k) fun i hi => h i (by omega)).and (h k (by omega))).mono fun m ⟨h1, h2⟩ i hi => ?_
    rcases Nat.lt_or_ge i k with h3 | h3
    · exact h1 i h3
    · rw [show i = k by omega]; exact h2
theorem foldO_run {β : Type} {f : β → Nat → Option β} {g : Nat → β} : ∀ {k : Nat}, (∀ i, i < k → f (g i) i = some (g (i + 1))) → foldO f (g 0) (List.range k) = some (g k)
  | 0, _ => rfl
  | k + 1, h => by
    rw [List.range_succ, foldO_app, foldO_run (k := k) fun i hi => h i (by omega)]
    simp only [Option.bind_some, foldO, h k (by omega)]
/-- an argument's text -/
def brF (U : Nat → List UInt8) (p : Nat → Bool) (j : Nat) : List UInt8 := if p j then 40 :: U j ++ [41] else U j
def accF (s : List UInt8) (U : Nat → List UInt8) (p : Nat → Bool) (i : Nat) : List UInt8 := s ++ (List.range i).flatMap fun j => 32 :: brF U p j
theorem accF_succ (s : List UInt8) (U : Nat → List UInt8) (p : Nat → Bool) (i : Nat) : accF s U p (i + 1) = accF s U p i ++ 32 :: brF U p i := by
  simp [accF, List.range_succ]
theorem brF_len (U : Nat → List UInt8) (p : Nat → Bool) (j : Nat) : (brF U p j).length ≤ (U j).length + 2 := by unfold brF; split <;> simp
/-- where the i-th kid begins -/
def stF (n : Nat) (KK : List (List Nd)) (i : Nat) : Nat := n + 1 + (KK.take i).flatten.length
theorem stF_succ {n : Nat} {KK : List (List Nd)} {i : Nat} {K : List Nd} (h : KK[i]? = some K) : stF n KK (i + 1) = stF n KK i + K.length := by
  unfold stF; rw [List.take_add_one, h]; simp; omega
theorem stF_end (n : Nat) (KK : List (List Nd)) : stF n KK KK.length = n + (KK.flatten.length + 1) := by unfold stF; rw [List.take_length]; omega
theorem accF_len {s : List UInt8} {U : Nat → List UInt8} {p : Nat → Bool} {KK : List (List Nd)} (hs : s.length ≤ 60) (hU : ∀ i K, KK[i]? = some K → (U i).length + 3 ≤ 110 * K.length) : ∀ i, i ≤ KK.length → (accF s U p i).length ≤ 60 + 110 * (KK.take i).flatten.length
  | 0, _ => by simp [accF]; exact hs
  | i + 1, h => by
    have ih := accF_len (p := p) hs hU i (by omega)
    have hK : KK[i]? = some KK[i] := List.getElem?_eq_getElem (by omega)
    have h1 := hU i _ hK
    have h2 := brF_len U p i
    rw [accF_succ, List.length_append, List.length_cons, List.take_add_one, hK]
    simp only [Option.toList_some, List.flatten_append, List.flatten_cons, List.flatten_nil, List.append_nil, List.length_append]
    omega
theorem starts_at {n : Nat} {KK : List (List Nd)} {i : Nat} (hi : i < KK.length) : (starts ((n : Int) + 1) KK)[i]? = some ((stF n KK i : Nat) : Int) := by
  rw [starts_get hi]; unfold stF; congr 1
attribute [local irreducible] hasBody Program.underlying Ylds astep alex alexE alexD awp PCall FCall RCall MCall QCall athen ablock ajump rpost fpost mpost rpostC

/-- what is so of the text of the type that begins at a place -/
def TxtAt (L : List Nd) (n l : Nat) (u : List UInt8) : Prop :=
  (Ev fun q => showF q L n = some (u, n + l)) ∧ u.length + 3 ≤ 110 * l ∧ PCall Tryz.prog 13 [nodes L, i64 (n : Int)] (str u)

theorem txt_var (L : List Nd) (n : Nat) (x : Nd) (k : Nat) (hx : L[n]? = some x) (hk : x.kind = 31) (hn : x.num = k) (h0 : k ≤ 1048576) : ∃ u, TxtAt L n 1 u := by
  have hd := rdigits_ok k k (Nat.le_refl _) (by omega)
  rw [← hn] at hd
  have hl := digs_len k (by omega)
  refine ⟨39 :: Lib.decDigits k, Ev.succ (P := fun _ => True) (.all fun _ => trivial) fun q _ => ?_, by rw [List.length_cons]; omega, ?_⟩
  · unfold showF
    rw [hx]
    simp only
    rw [if_pos hk, hn, Lib.itoa_nonneg]
  · refine pcall_of Tryz.func13 rfl Tryz.ntmps13 Tryz.results13 rfl ?_
    intro wb St0
    repeat' first
      | refine en_n ?_
      | refine awp_seq ?_
      | refine awp_region ?_
      | refine alex_nil ?_
      | refine w0 ?_
      | (apply Y_eqlT; exact rfl; exact rfl; first | assumption | omega)
      | (refine Y_call hb_rdigits hd (CoL_d rfl CoL_nil))
      | (apply Y_cat_l; exact rfl; exact rfl; exact (by simp; omega))
      | (apply aJ (hd := rfl); (first | exact Co_dd rfl | exact Co_bb rfl rfl rfl | exact Co_nn rfl); exact rfl; exact (by first | with_reducible exact es_binds | with_reducible exact es_nodes | with_reducible exact es_ints | with_reducible exact es_nodess | with_reducible exact es_toks | with_reducible exact es_strs | with_reducible exact es_u8s); assumption; omega; exact fun _ => rfl)
      | (apply aAlloc (hd := rfl) (hro := rfl); exact (by first | with_reducible exact zo_m68 | with_reducible exact zo_f24 | with_reducible exact zo_node | with_reducible exact zon_int | with_reducible exact zo_tok | with_reducible exact zo_int | with_reducible exact zo_i64))
      | apply ay (hd := rfl)
      | (apply Y_move_d; exact rfl)
      | (apply Y_assign_d; exact rfl)
      | (apply Y_load_r; exact rfl; exact (by first | with_reducible exact tc_bind | with_reducible exact tc_m51 | with_reducible exact tc_m68 | with_reducible exact tc_pst | with_reducible exact tc_pf | with_reducible exact tcn_int | with_reducible exact tc_nodes | with_reducible exact tc_node | with_reducible exact tc_ints | with_reducible exact tcn_kind | with_reducible exact tcn_i64 | with_reducible exact tcn_str | with_reducible exact tcn_bool | with_reducible exact tc_str | with_reducible exact tc_int | with_reducible exact tc_kind | with_reducible exact tc_tok | with_reducible exact tc_u8s | with_reducible exact tc_toks | with_reducible exact tc_strs | with_reducible exact tc_bool | with_reducible exact tc_err | with_reducible exact tc_i64); exact rfl)
      | (apply Y_field_p; exact rfl; exact (by first | with_reducible exact fb_0 | with_reducible exact fb_1 | with_reducible exact fs_0 | with_reducible exact fs_1 | with_reducible exact fn_0 | with_reducible exact fn_1 | with_reducible exact fn_2 | with_reducible exact fn_3 | with_reducible exact fo_0 | with_reducible exact fo_1 | with_reducible exact fo_2 | with_reducible exact fo_3))
      | (apply Y_load_p; exact rfl; exact (by first | with_reducible exact tc_bind | with_reducible exact tc_m51 | with_reducible exact tc_m68 | with_reducible exact tc_pst | with_reducible exact tc_pf | with_reducible exact tcn_int | with_reducible exact tc_nodes | with_reducible exact tc_node | with_reducible exact tc_ints | with_reducible exact tcn_kind | with_reducible exact tcn_i64 | with_reducible exact tcn_str | with_reducible exact tcn_bool | with_reducible exact tc_str | with_reducible exact tc_int | with_reducible exact tc_kind | with_reducible exact tc_tok | with_reducible exact tc_u8s | with_reducible exact tc_toks | with_reducible exact tc_strs | with_reducible exact tc_bool | with_reducible exact tc_err | with_reducible exact tc_i64); exact rfl; exact rfl)
      | (refine w0' ?_)
      | (apply aStore; exact rfl; exact rfl; exact rfl; exact (by first | with_reducible exact tc_bind | with_reducible exact tc_m51 | with_reducible exact tc_m68 | with_reducible exact tc_pst | with_reducible exact tc_pf | with_reducible exact tcn_int | with_reducible exact tc_nodes | with_reducible exact tc_node | with_reducible exact tc_ints | with_reducible exact tcn_kind | with_reducible exact tcn_i64 | with_reducible exact tcn_str | with_reducible exact tcn_bool | with_reducible exact tc_str | with_reducible exact tc_int | with_reducible exact tc_kind | with_reducible exact tc_tok | with_reducible exact tc_u8s | with_reducible exact tc_toks | with_reducible exact tc_strs | with_reducible exact tc_bool | with_reducible exact tc_err | with_reducible exact tc_i64); exact rfl; exact rfl; exact rfl; exact rfl)
      | (apply awp_condT; exact rfl)
      | refine awp_ret ?_
      | refine en_r ?_
      | refine rpost_ret ?_
      | (apply res1; exact rfl)
    all_goals rfl

theorem head_of {L : List Nd} {n : Nat} {K R : List Nd} (h : L.drop n = K ++ R) (hw : Whl K) : ∃ y, L[n]? = some y ∧ K[0]? = some y := by
  have hp := hw.pos
  cases K with
  | nil => simp at hp
  | cons y K => exact ⟨y, by have := congrArg (·[0]?) h; simpa using this, rfl⟩

set_option maxHeartbeats 4000000 in
theorem txt_arrow (L : List Nd) (hL : L.length ≤ 1000000) (n : Nat) (x : Nd) (KK : List (List Nd)) (R : List Nd) (hN : Node L n x KK R) (hk : x.kind ≠ 31) (ht : x.text = [45, 62]) (h2 : KK.length = 2)
    (U : Nat → List UInt8) (hU : ∀ i, i < KK.length → ∀ K, KK[i]? = some K → TxtAt L (stF n KK i) K.length (U i)) (Y : Nat → Nd) (hY : ∀ i, i < KK.length → L[stF n KK i]? = some (Y i)) (hlen : KK.flatten.length ≤ 5000) :
    ∃ u, TxtAt L n (KK.flatten.length + 1) u := by
  match KK, h2 with
  | [A, B], _ =>
    have hA := hU 0 (by simp) A rfl
    have hB := hU 1 (by simp) B rfl
    have yA := hY 0 (by simp)
    have yB := hY 1 (by simp)
    have e1 : stF n [A, B] 1 = stF n [A, B] 0 + A.length := by simp [stF]
    have e2 : stF n [A, B] 0 = n + 1 := by simp [stF]
    have hx := hN.at
    have hkk : kidsF L (n : Int) = [((stF n [A, B] 0 : Nat) : Int), ((stF n [A, B] 1 : Nat) : Int)] := by
      rw [hN.kidsEq]; simp only [starts, stF, List.take_zero, List.take_succ_cons, List.flatten_cons, List.flatten_nil, List.length_nil, List.append_nil]; congr 1
    have hKids := rKids_ok L (n : Int) (by omega)
    rw [hkk] at hKids
    simp only [List.flatten_cons, List.flatten_nil, List.length_append, List.length_nil] at hlen ⊢
    obtain ⟨vA, lA, cA⟩ := hA
    obtain ⟨vB, lB, cB⟩ := hB
    generalize stF n [A, B] 0 = a at *
    generalize stF n [A, B] 1 = b at *
    generalize U 0 = u0 at *
    generalize U 1 = u1 at *
    generalize Y 0 = y0 at *
    have hbr := rbrackets_ok u0 (decide (y0.text = [45, 62])) (by omega)
    have hlb : (if decide (y0.text = [45, 62]) then 40 :: u0 ++ [41] else u0 : List UInt8).length ≤ u0.length + 2 := by split <;> simp
    refine ⟨(if decide (y0.text = [45, 62]) then 40 :: u0 ++ [41] else u0) ++ [32, 45, 62, 32] ++ u1, (vA.and vB).succ fun q ⟨g1, g2⟩ => ?_, ?_, ?_⟩
    · unfold showF
      rw [hx]
      simp only
      rw [if_neg hk, if_pos ht]
      rw [← e2]
      simp only [argF, yA, g1]
      rw [← e1]
      simp only [yB, g2]
      simp only [Bool.false_eq_true, if_false]
      congr 2; omega
    · simp only [List.length_append, List.length_cons, List.length_nil]; omega
    · generalize hw : (if decide (y0.text = [45, 62]) then 40 :: u0 ++ [41] else u0 : List UInt8) = w at *
      have hk0 : ([(a : Int), (b : Int)])[0]? = some (a : Int) := rfl
      have hk1 : ([(a : Int), (b : Int)])[1]? = some (b : Int) := rfl
      refine pcall_of Tryz.func13 rfl Tryz.ntmps13 Tryz.results13 rfl ?_
      intro wb St0
      repeat' first
        | refine en_n ?_
        | refine awp_seq ?_
        | refine awp_region ?_
        | refine alex_nil ?_
        | refine w0 ?_
        | (apply Y_eqlF; exact rfl; exact rfl; first | assumption | omega)
        | (refine Y_call hb_rKids hKids (CoL_d rfl (CoL_d rfl CoL_nil)))
        | (refine Y_call hb_rShow9 cA (CoL_d rfl (CoL_d rfl CoL_nil)))
        | (refine Y_call hb_rShow9 cB (CoL_d rfl (CoL_d rfl CoL_nil)))
        | (refine Y_call hb_rbrackets hbr (CoL_d rfl (CoL_d rfl CoL_nil)))
        | (apply Y_strT; exact rfl; exact rfl; exact ht)
        | (apply Y_eqs; exact rfl; exact rfl)
        | (apply Y_cat_l; exact rfl; exact rfl; (try simp only [List.length_append, List.length_cons, List.length_nil]); omega)
        | (apply aJ (hd := rfl); (first | exact Co_dd rfl | exact Co_bb rfl rfl rfl | exact Co_nn rfl); exact rfl; exact (by first | with_reducible exact es_binds | with_reducible exact es_nodes | with_reducible exact es_ints | with_reducible exact es_nodess | with_reducible exact es_toks | with_reducible exact es_strs | with_reducible exact es_u8s); assumption; omega; exact fun _ => rfl)
        | (apply aAlloc (hd := rfl) (hro := rfl); exact (by first | with_reducible exact zo_m68 | with_reducible exact zo_f24 | with_reducible exact zo_node | with_reducible exact zon_int | with_reducible exact zo_tok | with_reducible exact zo_int | with_reducible exact zo_i64))
        | apply ay (hd := rfl)
        | (apply Y_move_d; exact rfl)
        | (apply Y_assign_d; exact rfl)
        | (apply Y_field_r; exact rfl; exact (by first | with_reducible exact fb_0 | with_reducible exact fb_1 | with_reducible exact fs_0 | with_reducible exact fs_1 | with_reducible exact fn_0 | with_reducible exact fn_1 | with_reducible exact fn_2 | with_reducible exact fn_3 | with_reducible exact fo_0 | with_reducible exact fo_1 | with_reducible exact fo_2 | with_reducible exact fo_3))
        | (apply Y_load_r1; exact rfl; exact (by first | with_reducible exact tc_bind | with_reducible exact tc_m51 | with_reducible exact tc_m68 | with_reducible exact tc_pst | with_reducible exact tc_pf | with_reducible exact tcn_int | with_reducible exact tc_nodes | with_reducible exact tc_node | with_reducible exact tc_ints | with_reducible exact tcn_kind | with_reducible exact tcn_i64 | with_reducible exact tcn_str | with_reducible exact tcn_bool | with_reducible exact tc_str | with_reducible exact tc_int | with_reducible exact tc_kind | with_reducible exact tc_tok | with_reducible exact tc_u8s | with_reducible exact tc_toks | with_reducible exact tc_strs | with_reducible exact tc_bool | with_reducible exact tc_err | with_reducible exact tc_i64))
        | (apply Y_load_r; exact rfl; exact (by first | with_reducible exact tc_bind | with_reducible exact tc_m51 | with_reducible exact tc_m68 | with_reducible exact tc_pst | with_reducible exact tc_pf | with_reducible exact tcn_int | with_reducible exact tc_nodes | with_reducible exact tc_node | with_reducible exact tc_ints | with_reducible exact tcn_kind | with_reducible exact tcn_i64 | with_reducible exact tcn_str | with_reducible exact tcn_bool | with_reducible exact tc_str | with_reducible exact tc_int | with_reducible exact tc_kind | with_reducible exact tc_tok | with_reducible exact tc_u8s | with_reducible exact tc_toks | with_reducible exact tc_strs | with_reducible exact tc_bool | with_reducible exact tc_err | with_reducible exact tc_i64); exact rfl)
        | (apply Y_field_p; exact rfl; exact (by first | with_reducible exact fb_0 | with_reducible exact fb_1 | with_reducible exact fs_0 | with_reducible exact fs_1 | with_reducible exact fn_0 | with_reducible exact fn_1 | with_reducible exact fn_2 | with_reducible exact fn_3 | with_reducible exact fo_0 | with_reducible exact fo_1 | with_reducible exact fo_2 | with_reducible exact fo_3))
        | (apply Y_load_p; exact rfl; exact (by first | with_reducible exact tc_bind | with_reducible exact tc_m51 | with_reducible exact tc_m68 | with_reducible exact tc_pst | with_reducible exact tc_pf | with_reducible exact tcn_int | with_reducible exact tc_nodes | with_reducible exact tc_node | with_reducible exact tc_ints | with_reducible exact tcn_kind | with_reducible exact tcn_i64 | with_reducible exact tcn_str | with_reducible exact tcn_bool | with_reducible exact tc_str | with_reducible exact tc_int | with_reducible exact tc_kind | with_reducible exact tc_tok | with_reducible exact tc_u8s | with_reducible exact tc_toks | with_reducible exact tc_strs | with_reducible exact tc_bool | with_reducible exact tc_err | with_reducible exact tc_i64); exact rfl; exact rfl)
        | (refine w0' ?_)
        | (apply aStore; exact rfl; exact rfl; exact rfl; exact (by first | with_reducible exact tc_bind | with_reducible exact tc_m51 | with_reducible exact tc_m68 | with_reducible exact tc_pst | with_reducible exact tc_pf | with_reducible exact tcn_int | with_reducible exact tc_nodes | with_reducible exact tc_node | with_reducible exact tc_ints | with_reducible exact tcn_kind | with_reducible exact tcn_i64 | with_reducible exact tcn_str | with_reducible exact tcn_bool | with_reducible exact tc_str | with_reducible exact tc_int | with_reducible exact tc_kind | with_reducible exact tc_tok | with_reducible exact tc_u8s | with_reducible exact tc_toks | with_reducible exact tc_strs | with_reducible exact tc_bool | with_reducible exact tc_err | with_reducible exact tc_i64); exact rfl; exact rfl; exact rfl; exact rfl)
        | (apply awp_condT; exact rfl)
        | (apply awp_condF; exact rfl)
        | refine awp_skip ?_
        | refine awp_ret ?_
        | refine awp_draw (by kernel_rfl) (by kernel_rfl) ?_
        | refine en_r ?_
        | refine rpost_ret ?_
        | (apply res1; exact rfl)
      all_goals rfl

set_option maxHeartbeats 4000000 in
theorem txt_con (L : List Nd) (hL : L.length ≤ 1000000) (n : Nat) (x : Nd) (KK : List (List Nd)) (R : List Nd) (hN : Node L n x KK R) (hk : x.kind ≠ 31) (ht : x.text ≠ [45, 62]) (h8 : KK.length ≤ 8) (hs : x.text.length ≤ 60)
    (U : Nat → List UInt8) (hU : ∀ i, i < KK.length → ∀ K, KK[i]? = some K → TxtAt L (stF n KK i) K.length (U i)) (Y : Nat → Nd) (hY : ∀ i, i < KK.length → L[stF n KK i]? = some (Y i)) (hlen : KK.flatten.length ≤ 5000)
    (hK31 : ∀ i, i < KK.length → (Y i).kind = 32 ∨ (Y i).kids = 0) :
    ∃ u, TxtAt L n (KK.flatten.length + 1) u := by
  have hx := hN.at
  have hKids := rKids_ok L (n : Int) (by omega)
  rw [hN.kidsEq] at hKids
  have hkn : x.kids.toNat = KK.length := by have := hN.kids; omega
  have hUl : ∀ i K, KK[i]? = some K → (U i).length + 3 ≤ 110 * K.length := fun i K h => (hU i (List.getElem?_eq_some_iff.1 h).1 K h).2.1
  have hUb : ∀ i, i < KK.length → (U i).length ≤ 1000000 := fun i hi => by
    have hK : KK[i]? = some KK[i] := List.getElem?_eq_getElem hi
    have h1 := hUl i _ hK
    have h2 : KK[i].length ≤ KK.flatten.length := len_ge (List.getElem_mem hi)
    omega
  let p := fun j => decide ((Y j).kids > 0)
  have hal := accF_len (p := p) hs hUl
  have halb : ∀ i, i ≤ KK.length → (accF x.text U p i).length ≤ 60 + 110 * KK.flatten.length := fun i hi => by
    have h1 := hal i hi
    have h2 : (KK.take i).flatten.length ≤ KK.flatten.length := by
      conv => rhs; rw [← List.take_append_drop i KK, List.flatten_append, List.length_append]
      omega
    omega
  have hbrl := brF_len U p
  refine ⟨accF x.text U p KK.length, (Ev.upto (k := KK.length) (P := fun i q => ∀ K, KK[i]? = some K → showF q L (stF n KK i) = some (U i, stF n KK i + K.length)) fun i hi => by
      have hK : KK[i]? = some KK[i] := List.getElem?_eq_getElem hi
      refine (hU i hi _ hK).1.mono fun q h K h2 => ?_
      rw [hK] at h2; injection h2 with h2; subst h2; exact h).succ fun q g => ?_, by have := halb KK.length (Nat.le_refl _); omega, ?_⟩
  · unfold showF
    rw [hx]
    simp only
    rw [if_neg hk, if_neg ht, hkn, ← stF_end]
    have e0 : (x.text, n + 1) = (accF x.text U p 0, stF n KK 0) := by simp [accF, stF]
    rw [e0]
    refine foldO_run (g := fun i => (accF x.text U p i, stF n KK i)) fun i hi => ?_
    have hK : KK[i]? = some KK[i] := List.getElem?_eq_getElem hi
    simp only [argF, hY i hi, g i hi _ hK]
    rw [accF_succ, stF_succ hK]; rfl
  · refine pcall_of Tryz.func13 rfl Tryz.ntmps13 Tryz.results13 rfl ?_
    intro wb St0
    repeat' first
      | (refine Y_eqsF ht rfl rfl)
      | refine en_n ?_
      | refine awp_seq ?_
      | refine awp_region ?_
      | refine alex_nil ?_
      | refine w0 ?_
      | (apply Y_eqlF; exact rfl; exact rfl; first | assumption | omega)
      | (refine Y_call hb_rKids hKids (CoL_d rfl (CoL_d rfl CoL_nil)))
      | (apply aJ (hd := rfl); (first | exact Co_dd rfl | exact Co_bb rfl rfl rfl | exact Co_nn rfl); exact rfl; exact (by first | with_reducible exact es_binds | with_reducible exact es_nodes | with_reducible exact es_ints | with_reducible exact es_nodess | with_reducible exact es_toks | with_reducible exact es_strs | with_reducible exact es_u8s); assumption; omega; exact fun _ => rfl)
      | (apply aAlloc (hd := rfl) (hro := rfl); exact (by first | with_reducible exact zo_m68 | with_reducible exact zo_f24 | with_reducible exact zo_node | with_reducible exact zon_int | with_reducible exact zo_tok | with_reducible exact zo_int | with_reducible exact zo_i64))
      | apply ay (hd := rfl)
      | (apply Y_move_d; exact rfl)
      | (apply Y_assign_d; exact rfl)
      | (apply Y_load_r; exact rfl; exact (by first | with_reducible exact tc_bind | with_reducible exact tc_m51 | with_reducible exact tc_m68 | with_reducible exact tc_pst | with_reducible exact tc_pf | with_reducible exact tcn_int | with_reducible exact tc_nodes | with_reducible exact tc_node | with_reducible exact tc_ints | with_reducible exact tcn_kind | with_reducible exact tcn_i64 | with_reducible exact tcn_str | with_reducible exact tcn_bool | with_reducible exact tc_str | with_reducible exact tc_int | with_reducible exact tc_kind | with_reducible exact tc_tok | with_reducible exact tc_u8s | with_reducible exact tc_toks | with_reducible exact tc_strs | with_reducible exact tc_bool | with_reducible exact tc_err | with_reducible exact tc_i64); exact rfl)
      | (apply Y_field_p; exact rfl; exact (by first | with_reducible exact fb_0 | with_reducible exact fb_1 | with_reducible exact fs_0 | with_reducible exact fs_1 | with_reducible exact fn_0 | with_reducible exact fn_1 | with_reducible exact fn_2 | with_reducible exact fn_3 | with_reducible exact fo_0 | with_reducible exact fo_1 | with_reducible exact fo_2 | with_reducible exact fo_3))
      | (apply Y_load_p; exact rfl; exact (by first | with_reducible exact tc_bind | with_reducible exact tc_m51 | with_reducible exact tc_m68 | with_reducible exact tc_pst | with_reducible exact tc_pf | with_reducible exact tcn_int | with_reducible exact tc_nodes | with_reducible exact tc_node | with_reducible exact tc_ints | with_reducible exact tcn_kind | with_reducible exact tcn_i64 | with_reducible exact tcn_str | with_reducible exact tcn_bool | with_reducible exact tc_str | with_reducible exact tc_int | with_reducible exact tc_kind | with_reducible exact tc_tok | with_reducible exact tc_u8s | with_reducible exact tc_toks | with_reducible exact tc_strs | with_reducible exact tc_bool | with_reducible exact tc_err | with_reducible exact tc_i64); exact rfl; exact rfl)
      | (refine w0' ?_)
      | (apply aStore; exact rfl; exact rfl; exact rfl; exact (by first | with_reducible exact tc_bind | with_reducible exact tc_m51 | with_reducible exact tc_m68 | with_reducible exact tc_pst | with_reducible exact tc_pf | with_reducible exact tcn_int | with_reducible exact tc_nodes | with_reducible exact tc_node | with_reducible exact tc_ints | with_reducible exact tcn_kind | with_reducible exact tcn_i64 | with_reducible exact tcn_str | with_reducible exact tcn_bool | with_reducible exact tc_str | with_reducible exact tc_int | with_reducible exact tc_kind | with_reducible exact tc_tok | with_reducible exact tc_u8s | with_reducible exact tc_toks | with_reducible exact tc_strs | with_reducible exact tc_bool | with_reducible exact tc_err | with_reducible exact tc_i64); exact rfl; exact rfl; exact rfl; exact rfl)
      | (apply awp_condF; exact rfl)
      | refine awp_block ?_
      | refine awp_skip ?_
    have e0 : x.text = accF x.text U p 0 := by simp [accF]
    have hstl : (starts ((n : Int) + 1) KK).length = KK.length := starts_len KK _
    generalize hks : starts ((n : Int) + 1) KK = ks at *
    have hst : ∀ i, i < KK.length → ks[i]? = some ((stF n KK i : Nat) : Int) := fun i hi => by rw [← hks]; exact starts_at hi
    refine awp_loopF (α := Nat) (fun i => i ≤ KK.length) (fun i => [(0, .d (nodes L)), (6, .d (nints ks)), (7, .d (str (accF x.text U p i))), (8, .d (i64 (i : Int)))]) (fun _ => []) (fun i => KK.length - i) 0 (Nat.zero_le _)
      (Fits_mk (Le_cons rfl (Le_cons rfl (Le_d rfl (str_eq e0.symm) (Le_cons rfl Le_nil)))) Pre_nil rfl rfl) ?_
    intro i hi
    rcases Nat.lt_or_ge i KK.length with hlt | hge
    · have hK : KK[i]? = some KK[i] := List.getElem?_eq_getElem hlt
      have hli : (i : Int) < (ks.length : Int) := by omega
      have c := (hU i hlt _ hK).2.2
      have hy := hY i hlt
      have hki := hst i hlt
      have hb1 := rbrackets_ok (U i) (p i) (by have := hUb i hlt; omega)
      have hacc := halb i hi
      have hacc1 := halb (i + 1) hlt
      rw [accF_succ, List.length_append, List.length_cons] at hacc1
      have hsucc := accF_succ x.text U p i
      rw [show (if p i = true then 40 :: U i ++ [41] else U i) = brF U p i from rfl] at hb1
      have hp : p i = decide ((Y i).kids > 0) := rfl
      generalize stF n KK i = s at *
      generalize U i = u at *
      by_cases hk32 : (Y i).kind = 32
      · rw [hp] at hb1
        skip
        repeat' first
          | refine en_n ?_
          | refine awp_seq ?_
          | refine awp_region ?_
          | refine alex_nil ?_
          | refine w0 ?_
          | (apply Y_lssT; exact rfl; exact rfl; first | assumption | omega)
          | (apply Y_eqlT; exact rfl; exact rfl; first | assumption | omega)
          | (refine Y_call hb_rShow9 c (CoL_d rfl (CoL_d rfl CoL_nil)))
          | (refine Y_call hb_rbrackets hb1 (CoL_d rfl (CoL_d rfl CoL_nil)))
          | (apply Y_cat_l; exact rfl; exact rfl; (try simp only [List.length_append, List.length_cons, List.length_nil]); omega)
          | (apply aJ (hd := rfl); (first | exact Co_dd rfl | exact Co_bb rfl rfl rfl | exact Co_nn rfl); exact rfl; exact (by first | with_reducible exact es_binds | with_reducible exact es_nodes | with_reducible exact es_ints | with_reducible exact es_nodess | with_reducible exact es_toks | with_reducible exact es_strs | with_reducible exact es_u8s); assumption; omega; exact fun _ => rfl)
          | apply ay (hd := rfl)
          | (apply Y_move_d; exact rfl)
          | (apply Y_assign_d; exact rfl)
          | (apply Y_field_r; exact rfl; exact (by first | with_reducible exact fb_0 | with_reducible exact fb_1 | with_reducible exact fs_0 | with_reducible exact fs_1 | with_reducible exact fn_0 | with_reducible exact fn_1 | with_reducible exact fn_2 | with_reducible exact fn_3 | with_reducible exact fo_0 | with_reducible exact fo_1 | with_reducible exact fo_2 | with_reducible exact fo_3))
          | (apply Y_load_r1; exact rfl; exact (by first | with_reducible exact tc_bind | with_reducible exact tc_m51 | with_reducible exact tc_m68 | with_reducible exact tc_pst | with_reducible exact tc_pf | with_reducible exact tcn_int | with_reducible exact tc_nodes | with_reducible exact tc_node | with_reducible exact tc_ints | with_reducible exact tcn_kind | with_reducible exact tcn_i64 | with_reducible exact tcn_str | with_reducible exact tcn_bool | with_reducible exact tc_str | with_reducible exact tc_int | with_reducible exact tc_kind | with_reducible exact tc_tok | with_reducible exact tc_u8s | with_reducible exact tc_toks | with_reducible exact tc_strs | with_reducible exact tc_bool | with_reducible exact tc_err | with_reducible exact tc_i64))
          | (apply Y_len_m; exact rfl; exact (by first | with_reducible exact et_binds | with_reducible exact et_nodes | with_reducible exact et_ints | with_reducible exact et_nodess | with_reducible exact et_toks | with_reducible exact et_strs | with_reducible exact et_u8s))
          | (apply Y_gtr; exact rfl; exact rfl)
          | (apply Y_add; exact rfl; exact rfl)
          | (apply Y_pick_t; exact rfl; exact rfl)
          | (apply w1; exact rfl; exact rfl)
          | (apply awp_condT; exact rfl)
          | refine awp_block ?_
          | refine awp_skip ?_
          | refine awp_draw (by kernel_rfl) (by kernel_rfl) ?_
          | refine eb_n ?_
        all_goals try omega
        exact ⟨i + 1, by omega, by omega, Fits_mk (Le_cons rfl (Le_cons rfl (Le_d rfl (str_eq (by rw [hsucc]; rfl)) (Le_cons rfl Le_nil)))) Pre_nil rfl rfl⟩
      · have hk0 : p i = false := by
          rcases hK31 i hlt with h | h
          · exact absurd h hk32
          · rw [hp, h]; rfl
        rw [hk0] at hb1
        skip
        repeat' first
          | refine en_n ?_
          | refine awp_seq ?_
          | refine awp_region ?_
          | refine alex_nil ?_
          | refine w0 ?_
          | (apply Y_lssT; exact rfl; exact rfl; first | assumption | omega)
          | (apply Y_eqlF; exact rfl; exact rfl; first | assumption | omega)
          | (refine Y_call hb_rShow9 c (CoL_d rfl (CoL_d rfl CoL_nil)))
          | (refine Y_call hb_rbrackets hb1 (CoL_d rfl (CoL_d rfl CoL_nil)))
          | (apply Y_cat_l; exact rfl; exact rfl; (try simp only [List.length_append, List.length_cons, List.length_nil]); omega)
          | (apply aJ (hd := rfl); (first | exact Co_dd rfl | exact Co_bb rfl rfl rfl | exact Co_nn rfl); exact rfl; exact (by first | with_reducible exact es_binds | with_reducible exact es_nodes | with_reducible exact es_ints | with_reducible exact es_nodess | with_reducible exact es_toks | with_reducible exact es_strs | with_reducible exact es_u8s); assumption; omega; exact fun _ => rfl)
          | apply ay (hd := rfl)
          | (apply Y_move_d; exact rfl)
          | (apply Y_assign_d; exact rfl)
          | (apply Y_field_r; exact rfl; exact (by first | with_reducible exact fb_0 | with_reducible exact fb_1 | with_reducible exact fs_0 | with_reducible exact fs_1 | with_reducible exact fn_0 | with_reducible exact fn_1 | with_reducible exact fn_2 | with_reducible exact fn_3 | with_reducible exact fo_0 | with_reducible exact fo_1 | with_reducible exact fo_2 | with_reducible exact fo_3))
          | (apply Y_load_r1; exact rfl; exact (by first | with_reducible exact tc_bind | with_reducible exact tc_m51 | with_reducible exact tc_m68 | with_reducible exact tc_pst | with_reducible exact tc_pf | with_reducible exact tcn_int | with_reducible exact tc_nodes | with_reducible exact tc_node | with_reducible exact tc_ints | with_reducible exact tcn_kind | with_reducible exact tcn_i64 | with_reducible exact tcn_str | with_reducible exact tcn_bool | with_reducible exact tc_str | with_reducible exact tc_int | with_reducible exact tc_kind | with_reducible exact tc_tok | with_reducible exact tc_u8s | with_reducible exact tc_toks | with_reducible exact tc_strs | with_reducible exact tc_bool | with_reducible exact tc_err | with_reducible exact tc_i64))
          | (apply Y_len_m; exact rfl; exact (by first | with_reducible exact et_binds | with_reducible exact et_nodes | with_reducible exact et_ints | with_reducible exact et_nodess | with_reducible exact et_toks | with_reducible exact et_strs | with_reducible exact et_u8s))
          | (apply Y_add; exact rfl; exact rfl)
          | (apply Y_pick_f; exact rfl; exact rfl)
          | (apply k1 (hd := rfl); exact rfl; exact rfl)
          | (apply awp_condT; exact rfl)
          | refine awp_block ?_
          | refine awp_skip ?_
          | refine awp_draw (by kernel_rfl) (by kernel_rfl) ?_
          | refine eb_n ?_
        all_goals try omega
        exact ⟨i + 1, by omega, by omega, Fits_mk (Le_cons rfl (Le_cons rfl (Le_d rfl (str_eq (by rw [hsucc]; rfl)) (Le_cons rfl Le_nil)))) Pre_nil rfl rfl⟩
    · have hli : ¬ (i : Int) < (ks.length : Int) := by omega
      have e : i = KK.length := by omega
      subst e
      skip
      repeat' first
        | refine en_n ?_
        | refine awp_seq ?_
        | refine awp_region ?_
        | refine alex_nil ?_
        | refine w0 ?_
        | (apply Y_lssF; exact rfl; exact rfl; first | assumption | omega)
        | apply ay (hd := rfl)
        | (apply Y_move_d; exact rfl)
        | (apply Y_assign_d; exact rfl)
        | (apply Y_len_m; exact rfl; exact (by first | with_reducible exact et_binds | with_reducible exact et_nodes | with_reducible exact et_ints | with_reducible exact et_nodess | with_reducible exact et_toks | with_reducible exact et_strs | with_reducible exact et_u8s))
        | (apply awp_condF; exact rfl)
        | refine awp_ret ?_
        | refine awp_exit ?_
        | refine en_e ?_
        | refine eb_e ?_
        | refine rpost_ret ?_
        | (apply res1; exact rfl)
      all_goals rfl

theorem Ty.kid32 {K : List Nd} {y : Nd} (h : Ty K) (hy : K[0]? = some y) : y.kind = 32 ∨ y.kids = 0 := by
  by_cases hk : y.kind = 31
  · have := (h.lf y (List.mem_of_getElem? hy) hk).1
    rw [this]; exact .inr rfl
  · have h1 := h.rt y (List.mem_of_getElem? hy)
    rw [rightN, if_neg hk] at h1
    by_cases h2 : y.kind = 32
    · exact .inl h2
    · rw [if_pos (.inl h2)] at h1; cases h1
theorem arrow_two {x : Nd} (h : rightN x = true) (hk : x.kind ≠ 31) (ht : x.text = [45, 62]) : x.kids = 2 := by
  rw [rightN, if_neg hk] at h
  by_cases h2 : x.kind ≠ 32 ∨ x.num ≠ 0
  · rw [if_pos h2] at h; cases h
  · rw [if_neg h2, if_pos (show x.text = arrT from ht)] at h; exact of_decide_eq_true h
theorem right_few {x : Nd} (h : rightN x = true) (hk : x.kind ≠ 31) : x.kids ≤ 8 := by
  rw [rightN, if_neg hk] at h
  split at h
  · cases h
  · split at h
    · have := of_decide_eq_true h; omega
    · split at h
      · have := of_decide_eq_true h; omega
      · split at h
        · have := of_decide_eq_true h; omega
        · rw [Bool.and_eq_true] at h; exact of_decide_eq_true h.2
/-- the text of the type that begins at a place: the program's is the document's -/
theorem txt_at (L : List Nd) (hL : L.length ≤ 4000) : ∀ (m n : Nat) (K R : List Nd), K.length ≤ m → L.drop n = K ++ R → Ty K → (∀ x ∈ K, x.text.length ≤ 60) → ∃ u, TxtAt L n K.length u
  | 0, n, K, R, hm, hd, hT, _ => by have := hT.whl.pos; omega
  | m + 1, n, K, R, hm, hd, hT, hs => by
    have hKL : K.length ≤ 4000 := by
      have := congrArg List.length hd
      rw [List.length_drop, List.length_append] at this; omega
    rcases hT.cases with ⟨v, rfl, hv⟩ | ⟨x, KK, rfl, hk, hkids, hKK, hN0⟩
    · obtain ⟨k, rfl⟩ := Int.eq_ofNat_of_zero_le hv.1
      have hx : L[n]? = some (vN (k : Int)) := by have := congrArg (·[0]?) hd; simpa using this
      exact txt_var L n _ k hx rfl rfl (by omega)
    · have hN : Node L n x KK R := ⟨hd, hkids, hN0.whole⟩
      rw [List.length_cons] at hm hKL ⊢
      have hdr := fun i K (hK : KK[i]? = some K) => (kid_sub hN.next hN.whole hK).2
      have ih : ∀ i, i < KK.length → ∃ u, ∀ K, KK[i]? = some K → TxtAt L (stF n KK i) K.length u := fun i hi => by
        have hK : KK[i]? = some KK[i] := List.getElem?_eq_getElem hi
        have hmem : KK[i] ∈ KK := List.getElem_mem hi
        have := len_ge hmem
        obtain ⟨u, hu⟩ := txt_at L hL m (stF n KK i) KK[i] _ (by omega) (hdr i _ hK) (hKK _ hmem) fun y hy => hs y (List.mem_cons_of_mem _ (List.mem_flatten.2 ⟨_, hmem, hy⟩))
        exact ⟨u, fun K h => by rw [hK] at h; injection h with h; subst h; exact hu⟩
      obtain ⟨U, hU⟩ := pickU ih
      have hY0 : ∀ i, i < KK.length → ∃ y, L[stF n KK i]? = some y ∧ (y.kind = 32 ∨ y.kids = 0) := fun i hi => by
        have hK : KK[i]? = some KK[i] := List.getElem?_eq_getElem hi
        have hT2 := hKK _ (List.getElem_mem hi)
        obtain ⟨y, h1, h2⟩ := head_of (hdr i _ hK) hT2.whl
        exact ⟨y, h1, hT2.kid32 h2⟩
      let Y : Nat → Nd := fun i => if h : i < KK.length then Classical.choose (hY0 i h) else x
      have hY : ∀ i, i < KK.length → L[stF n KK i]? = some (Y i) ∧ ((Y i).kind = 32 ∨ (Y i).kids = 0) := fun i hi => by
        simp only [Y, hi, dif_pos]; exact Classical.choose_spec (hY0 i hi)
      have hr := hT.rt x List.mem_cons_self
      by_cases ht : x.text = [45, 62]
      · exact txt_arrow L (by omega) n x KK R hN hk ht (by have := arrow_two hr hk ht; omega) U hU Y (fun i hi => (hY i hi).1) (by omega)
      · exact txt_con L (by omega) n x KK R hN hk ht (by have := right_few hr hk; omega) (hs x List.mem_cons_self) U hU Y (fun i hi => (hY i hi).1) (by omega) fun i hi => (hY i hi).2
end Go.Proofs.YtamhkcnpocdfcaaGreatDoor
/- The statements on types: the walk of the law Tells. -/
namespace Go.Proofs.YtamhkcnpocdfcaaGreatDoor
open Go.Sx
theorem few_lens {t : List Nd} (h : fewT t = true) : t.length ≤ 60 ∧ ∀ x ∈ t, x.text.length ≤ 60 := by
  rw [fewT, Bool.and_eq_true] at h
  exact ⟨of_decide_eq_true h.1, fun x hx => of_decide_eq_true (List.all_eq_true.1 h.2 x hx)⟩
theorem okT_nums {L : List Nd} (h : okT L = true) : ∀ x ∈ L, 0 ≤ x.num ∧ x.num ≤ 9223372036854775807 := fun x hx => by
  have h1 := List.all_eq_true.1 (okT_is.1 h).2.2 x hx
  by_cases hk : x.kind = 31
  · have := (ty_of h).lf x hx hk; omega
  · rw [rightN, if_neg hk] at h1
    by_cases h2 : x.kind ≠ 32 ∨ x.num ≠ 0
    · rw [if_pos h2] at h1; cases h1
    · omega
attribute [local irreducible] hasBody Program.underlying Ylds astep alex alexE alexD awp PCall FCall RCall MCall QCall athen ablock ajump rpost fpost mpost rpostC
set_option maxHeartbeats 4000000 in
theorem Tells_ok (t : List Nd) : PCall Tryz.prog 3 [nodes t] (bl true) := by
  have hF := Few_ok t
  by_cases hf : fewT t = true
  · rw [hf] at hF
    obtain ⟨hl, htx⟩ := few_lens hf
    have hO := own_ok t (by omega)
    have hR := rRight9_ok t (by omega) fun x hx => Nat.le_trans (htx x hx) (by omega)
    have hC := Check_ok t (by omega)
    have hV := Vars_ok t (by omega)
    have hN := Canon_ok t (by omega)
    by_cases hk : okT t = true
    · have e1 : varsF t = varsG t := by rw [varsF, if_pos hk]
      have e2 : canonF t = t.map (can1 (varsG t)) := by rw [canonF, if_pos hk]
      rw [hk] at hR
      rw [e1] at hV
      rw [e2] at hN
      rw [show ckT t = 0 by rw [ckT, if_pos hk]] at hC
      obtain ⟨u, hE, hu, hS⟩ := txt_at t (by omega) t.length 0 t [] (Nat.le_refl _) (by simp) (ty_of hk) htx
      obtain ⟨q, hq⟩ := hE.get
      have hSh := Show_ok t (by omega) (okT_nums hk) (by rw [ckT, if_pos hk]) q u _ hq (by omega)
      have hrV := rVars9_ok t (by omega)
      have hrN := rCanon9_ok t (by omega)
      have hvl : (varsG t).length ≤ 2000000 := by have := varsG_bd (L := t) t.length (by omega); rwa [List.take_length] at this
      have hRow := Row_ok (varsG t) (varsG t) hvl
      have hSame := Same_ok (t.map (can1 (varsG t))) (t.map (can1 (varsG t))) (by rw [List.length_map]; omega)
      rw [decide_eq_true rfl] at hRow hSame
      generalize t.map (can1 (varsG t)) = c at *
      generalize varsG t = v at *
      refine pcall_of Tryz.func3 rfl Tryz.ntmps3 Tryz.results3 rfl ?_
      intro wb St0
      repeat' first
        | refine en_n ?_
        | refine awp_seq ?_
        | refine awp_region ?_
        | refine alex_nil ?_
        | refine w0 ?_
        | (apply Y_eqlT; exact rfl; exact rfl; first | assumption | omega)
        | (apply Y_strT; exact rfl; exact rfl; exact rfl)
        | (refine Y_call hb_awake awake_ok CoL_nil)
        | (refine Y_call hb_Few hF (CoL_d rfl CoL_nil))
        | (refine Y_call hb_own hO (CoL_d rfl CoL_nil))
        | (refine Y_call hb_Show hSh (CoL_d rfl CoL_nil))
        | (refine Y_call hb_rRight9 hR (CoL_d rfl CoL_nil))
        | (refine Y_call hb_rShow9 hS (CoL_d rfl (CoL_d rfl CoL_nil)))
        | (refine Y_call hb_Check hC (CoL_d rfl CoL_nil))
        | (refine Y_call hb_Vars hV (CoL_d rfl CoL_nil))
        | (refine Y_call hb_rVars9 hrV (CoL_d rfl CoL_nil))
        | (refine Y_call hb_Row hRow (CoL_d rfl (CoL_d rfl CoL_nil)))
        | (refine Y_call hb_Canon hN (CoL_d rfl CoL_nil))
        | (refine Y_call hb_rCanon9 hrN (CoL_d rfl CoL_nil))
        | (refine Y_call hb_Same hSame (CoL_d rfl (CoL_d rfl CoL_nil)))
        | apply ay (hd := rfl)
        | (apply Y_move_d; exact rfl)
        | (apply Y_assign_d; exact rfl)
        | (apply Y_not; exact rfl)
        | (apply Y_pick_t; exact rfl; exact rfl)
        | (apply Y_pick_f; exact rfl; exact rfl)
        | (apply Y_extract; exact rfl; exact rfl)
        | (apply w1; exact rfl; exact rfl)
        | (apply awp_condF; exact rfl)
        | refine awp_skip ?_
        | refine awp_ret ?_
        | refine rpost_ret ?_
        | (apply res1; exact rfl)
      all_goals rfl
    · have hk2 : okT t = false := by cases h : okT t with
        | false => rfl
        | true => exact absurd h hk
      have e1 : varsF t = [] := by rw [varsF, if_neg hk]
      have e2 : canonF t = [] := by rw [canonF, if_neg hk]
      have e3 : ckT t = 90 := by rw [ckT, if_neg hk]
      have hSh := Show_no t (by omega) (by rw [e3]; decide)
      rw [hk2] at hR
      rw [e1] at hV
      rw [e2] at hN
      rw [e3] at hC hSh
      refine pcall_of Tryz.func3 rfl Tryz.ntmps3 Tryz.results3 rfl ?_
      intro wb St0
      repeat' first
        | refine en_n ?_
        | refine awp_seq ?_
        | refine awp_region ?_
        | refine alex_nil ?_
        | refine w0 ?_
        | (apply Y_eqlT; exact rfl; exact rfl; exact rfl)
        | (apply Y_strT; exact rfl; exact rfl; exact rfl)
        | (refine Y_call hb_awake awake_ok CoL_nil)
        | (refine Y_call hb_Few hF (CoL_d rfl CoL_nil))
        | (refine Y_call hb_own hO (CoL_d rfl CoL_nil))
        | (refine Y_call hb_Show hSh (CoL_d rfl CoL_nil))
        | (refine Y_call hb_rRight9 hR (CoL_d rfl CoL_nil))
        | (refine Y_call hb_Check hC (CoL_d rfl CoL_nil))
        | (refine Y_call hb_Vars hV (CoL_d rfl CoL_nil))
        | (refine Y_call hb_Canon hN (CoL_d rfl CoL_nil))
        | apply ay (hd := rfl)
        | (apply Y_move_d; exact rfl)
        | (apply Y_assign_d; exact rfl)
        | (apply Y_len_m; exact rfl; exact (by first | with_reducible exact et_binds | with_reducible exact et_nodes | with_reducible exact et_ints | with_reducible exact et_nodess | with_reducible exact et_toks | with_reducible exact et_strs | with_reducible exact et_u8s))
        | (apply Y_not; exact rfl)
        | (apply Y_pick_t; exact rfl; exact rfl)
        | (apply Y_pick_f; exact rfl; exact rfl)
        | (apply Y_extract; exact rfl; exact rfl)
        | (apply w1; exact rfl; exact rfl)
        | (apply awp_condT; exact rfl)
        | (apply awp_condF; exact rfl)
        | refine awp_skip ?_
        | refine awp_ret ?_
        | refine en_r ?_
        | refine rpost_ret ?_
        | (apply res1; exact rfl)
      all_goals rfl
  · have hf2 : fewT t = false := by cases h : fewT t with
      | false => rfl
      | true => exact absurd h hf
    rw [hf2] at hF
    refine pcall_of Tryz.func3 rfl Tryz.ntmps3 Tryz.results3 rfl ?_
    intro wb St0
    repeat' first
      | refine en_n ?_
      | refine awp_seq ?_
      | refine awp_region ?_
      | refine alex_nil ?_
      | refine w0 ?_
      | (refine Y_call hb_awake awake_ok CoL_nil)
      | (refine Y_call hb_Few hF (CoL_d rfl CoL_nil))
      | apply ay (hd := rfl)
      | (apply Y_move_d; exact rfl)
      | (apply Y_assign_d; exact rfl)
      | (apply Y_not; exact rfl)
      | (apply Y_pick_f; exact rfl; exact rfl)
      | (apply w1; exact rfl; exact rfl)
      | (apply awp_condT; exact rfl)
      | refine awp_ret ?_
      | refine en_r ?_
      | refine rpost_ret ?_
      | (apply res1; exact rfl)
    all_goals rfl
end Go.Proofs.YtamhkcnpocdfcaaGreatDoor
/- Nodes: what an argument reads as. -/
namespace Go.Proofs.YtamhkcnpocdfcaaGreatDoor
open Go.ChangeShapes Go.WideShapes Go.ChangeAt Go.RowKit Go.Deep Go.Sx

/-- every cell that there is -/
def big (W : World) : Stab := fun b _ => b < W.heap.size

theorem cell_lt {W : World} {a : Addr} {u : Value} (h : W.cell? a = some u) : a.block < W.heap.size := by
  unfold World.cell? at h
  rcases Nat.lt_or_ge a.block W.heap.size with h1 | h1
  · exact h1
  · rw [Array.getElem?_eq_none h1] at h; cases h

theorem exists_list {α : Type} {Q : Nat → α → Prop} : ∀ n : Nat, (∀ i, i < n → ∃ x, Q i x) → ∃ L : List α, L.length = n ∧ ∀ i x, L[i]? = some x → Q i x
  | 0, _ => ⟨[], rfl, fun i x h => by simp at h⟩
  | n + 1, h => by
    obtain ⟨L, hl, hq⟩ := exists_list n (fun i hi => h i (by omega))
    obtain ⟨y, hy⟩ := h n (by omega)
    refine ⟨L ++ [y], by simp [hl], fun i x hx => ?_⟩
    rcases Nat.lt_or_ge i n with h1 | h1
    · rw [List.getElem?_append_left (by omega)] at hx; exact hq i x hx
    · rw [List.getElem?_append_right (by omega), hl] at hx
      rcases Nat.lt_or_ge n i with h2 | h2
      · rw [List.getElem?_eq_none (by simp; omega)] at hx; cases hx
      · have : i = n := by omega
        subst this; simp at hx; subst hx; exact hy

theorem rep_slice {W : World} {a : Addr} {len cap sz : Nat} {xs : List D} (hl : len = xs.length) (hc : len ≤ cap) (hm : cap ≤ maxLen) (hsz : ∀ x ∈ xs, x.flat.length = sz) (hp : 0 < sz)
    (h : ∀ (i : Nat) (d : D), xs[i]? = some d → ∀ (o : Nat) (c : D), d.flat[o]? = some c → ∃ u, W.cell? (a.add (i * sz + o)) = some u ∧ u.oneCell' = true ∧ RepD (big W) W u c) :
    RepD (big W) W (.slice (some a) len cap) (.slice xs) := by
  have hfl := flats_len hsz
  obtain ⟨us, hul, huq⟩ := exists_list (Q := fun j u => W.cell? (a.add j) = some u ∧ u.oneCell' = true ∧ ∀ c, (flats xs)[j]? = some c → RepD (big W) W u c) (xs.length * sz) (fun j hj => by
    have hi : j / sz < xs.length := by rw [Nat.div_lt_iff_lt_mul hp]; exact hj
    have ho : j % sz < sz := Nat.mod_lt _ hp
    have hjj : j / sz * sz + j % sz = j := by rw [Nat.mul_comm]; exact Nat.div_add_mod j sz
    have hd : xs[j / sz]? = some xs[j / sz] := List.getElem?_eq_getElem hi
    have hdl := hsz _ (List.getElem_mem hi)
    have hc' : (xs[j / sz]).flat[j % sz]? = some ((xs[j / sz]).flat[j % sz]'(by omega)) := List.getElem?_eq_getElem (by omega)
    obtain ⟨u, h1, h2, h3⟩ := h _ _ hd _ _ hc'
    refine ⟨u, by rw [← hjj]; exact h1, h2, fun c hcc => ?_⟩
    have h4 := flats_at hsz hd ho
    rw [hjj, hcc, hc'] at h4
    injection h4 with h4; rw [h4]; exact h3)
  refine .slice (some a) len cap sz xs us hl hc hm hsz (by rw [hul, hfl]) (fun u hu => ?_) (fun _ => ⟨a, rfl, fun j u hu => ⟨?_, (huq j u hu).1⟩⟩) (fun j u d hu hd => (huq j u hu).2.2 d hd)
  · obtain ⟨j, hj, rfl⟩ := List.getElem_of_mem hu
    exact (huq j _ (List.getElem?_eq_getElem hj)).2.1
  · have h1 := cell_lt (huq j u hu).1
    have h2 : (a.add j).block = a.block := by unfold Addr.add; split <;> rfl
    rw [h2] at h1; exact h1

theorem rep_nil {W : World} : RepD (big W) W (.slice none 0 0) (.slice []) :=
  .slice none 0 0 0 [] [] rfl (Nat.le_refl _) (Nat.zero_le _) (by simp) (by simp [flats]) (by simp) (fun h => absurd h (by simp)) (fun j u d h => by simp at h)

theorem fs37 : Tryz.prog.fieldsOf 41 = #[⟨"Kind", 39, 0, false, "", "", 0⟩, ⟨"Text", 9, 1, false, "", "", 8⟩, ⟨"Num", 2, 2, false, "", "", 24⟩, ⟨"Kids", 3, 3, false, "", "", 32⟩] := by kernel_rfl
theorem us_nodes : Tryz.prog.underlying 22 = some (.slice 41) := by kernel_rfl
theorem us_node : Tryz.prog.underlying 41 = some (.struct #[⟨"Kind", 39, 0, false, "", "", 0⟩, ⟨"Text", 9, 1, false, "", "", 8⟩, ⟨"Num", 2, 2, false, "", "", 24⟩, ⟨"Kids", 3, 3, false, "", "", 32⟩]) := by kernel_rfl
theorem us_kind : Tryz.prog.underlying 39 = some (.int .i64) := by kernel_rfl
theorem us_i64 : Tryz.prog.underlying 2 = some (.int .i64) := by kernel_rfl
theorem us_str : Tryz.prog.underlying 9 = some .string := by kernel_rfl
theorem co_node : Tryz.prog.cellsOf 41 = 4 := by kernel_rfl
theorem one_node : oneCellFields Tryz.prog #[⟨"Kind", 39, 0, false, "", "", 0⟩, ⟨"Text", 9, 1, false, "", "", 8⟩, ⟨"Num", 2, 2, false, "", "", 24⟩, ⟨"Kids", 3, 3, false, "", "", 32⟩] = true := by kernel_rfl

section
variable {H : Type} {enc : TypeId × Value → H} {P : Program} {w : World} {base : Nat} {spare : Nat → Bool} {held : Bool}
theorem open_fields {t e : TypeId} {fs : Array Field} {fuel : Nat} {cs : List Value} {x : DataW H × List MemPlace} (ht : P.underlying t = some (.slice e)) (he : P.underlying e = some (.struct fs))
    (hone : oneCellFields P fs = true) (hC : P.cellsOf e = fs.size) (h : DataW.trod enc P w base spare held fuel t cs = some x) :
    cs = [.slice none 0 0] ∨
    ∃ (a : Addr) (len cap : Nat), cs = [.slice (some a) len cap] ∧ len ≤ cap ∧ cap ≤ maxLen ∧
      ∀ i, i < len → ∃ n : Nat, ∀ (j : Nat) (f : Field), fs[j]? = some f → ∃ (v : Value) (y : DataW H × List MemPlace), w.cell? (a.add (i * fs.size + j)) = some v ∧ DataW.trod enc P w base spare held n f.type [v] = some y := by
  rcases open_slice ht h with h0 | ⟨a, len, cap, m, n, D, Pl, hcs, hb, hl, hm, hmm, hx, hi⟩
  · exact .inl h0.1
  · refine .inr ⟨a, len, cap, hcs, hl, hm, fun i him => ?_⟩
    obtain ⟨cs', hc, ht'⟩ := hi i (by rw [hmm]; split <;> omega)
    rw [hC] at hc
    obtain ⟨ys, n', hn', hy, hlen, hyl, hf⟩ := DataW.trod_struct he ht'
    obtain ⟨_, hcl, hat⟩ := World.cells?_some hc
    refine ⟨n', fun j f hj => ?_⟩
    obtain ⟨ho, hk⟩ := hone_of hone j f hj
    have hjl : j < fs.size := (Array.getElem?_eq_some_iff.1 hj).1
    have hcell := hat j hjl
    have hv : cs'[j]? = some (cs'[j]'(by omega)) := List.getElem?_eq_getElem (by omega)
    have h1 := hf j f hj
    rw [ho, hk] at h1
    have hone' : (cs'.drop j).take 1 = [cs'[j]'(by omega)] := by
      rw [List.drop_eq_getElem_cons (by omega)]
      rfl
    rw [hone'] at h1
    have hys : ys[j]? = some (ys[j]'(by omega)) := List.getElem?_eq_getElem (by omega)
    refine ⟨_, _, ?_, h1.trans hys⟩
    rw [← Go.Deep.add_add, hcell, hv]
end

set_option maxRecDepth 100000 in
theorem nodes_of {H : Type} {enc : TypeId × Value → H} {W : World} {fuel : Nat} {cs : List Value} {x : DataW H × List MemPlace} (h : DataW.trod enc Tryz.prog W 0 (fun _ => true) true fuel 22 cs = some x) :
    ∃ v L, cs = [v] ∧ v.oneCell' = true ∧ RepD (big W) W v (nodes L) := by
  rcases open_fields us_nodes us_node one_node co_node h with h0 | ⟨a, len, cap, hcs, hl, hm, hi⟩
  · exact ⟨_, [], h0, rfl, rep_nil⟩
  · obtain ⟨L, hL, hq⟩ := exists_list (Q := fun i (n : Nd) => ∀ (o : Nat) (u : Value), n.vals[o]? = some u → W.cell? (a.add (i * 4 + o)) = some u) len (fun i hil => by
      obtain ⟨n, hf⟩ := hi i hil
      obtain ⟨u0, y0, c0, t0⟩ := hf 0 _ rfl
      obtain ⟨u1, y1, c1, t1⟩ := hf 1 _ rfl
      obtain ⟨u2, y2, c2, t2⟩ := hf 2 _ rfl
      obtain ⟨u3, y3, c3, t3⟩ := hf 3 _ rfl
      obtain ⟨k, e0, _, _⟩ := DataW.trod_int us_kind t0
      obtain ⟨s, e1, _, _⟩ := DataW.trod_string us_str t1
      obtain ⟨m, e2, _, _⟩ := DataW.trod_int us_i64 t2
      obtain ⟨z, e3, _, _⟩ := DataW.trod_int ut_int t3
      injection e0 with e0; injection e1 with e1; injection e2 with e2; injection e3 with e3
      subst e0; subst e1; subst e2; subst e3
      refine ⟨⟨k, s.data.toList, m, z⟩, fun o u hu => ?_⟩
      match o, hu with
      | 0, hu => injection hu with hu; subst hu; exact c0
      | 1, hu => injection hu with hu; subst hu; exact c1
      | 2, hu => injection hu with hu; subst hu; exact c2
      | 3, hu => injection hu with hu; subst hu; exact c3
      | o + 4, hu => simp [Nd.vals] at hu)
    refine ⟨_, L, hcs, rfl, rep_slice (sz := 4) (by rw [List.length_map, hL]) hl hm (sz_map fun _ => rfl) (by decide) fun i d hd o c hc => ?_⟩
    rw [List.getElem?_map] at hd
    cases hn : L[i]? with
    | none => rw [hn] at hd; cases hd
    | some n =>
      rw [hn] at hd; injection hd with hd; subst hd
      have h1 := hq i n hn o
      match o, hc, h1 with
      | 0, hc, h1 => injection hc with hc; subst hc; exact ⟨_, h1 _ rfl, rfl, .val _⟩
      | 1, hc, h1 => injection hc with hc; subst hc; exact ⟨_, h1 _ rfl, rfl, .val _⟩
      | 2, hc, h1 => injection hc with hc; subst hc; exact ⟨_, h1 _ rfl, rfl, .val _⟩
      | 3, hc, h1 => injection hc with hc; subst hc; exact ⟨_, h1 _ rfl, rfl, .val _⟩
      | o + 4, hc, _ => exact absurd hc (by simp [Nd.av, D.flat])

set_option maxRecDepth 100000 in
theorem nodes_arg {H : Type} {enc : TypeId × Value → H} {W : World} {r : Reach} {b0 : Nat} {v : Value} {d : DataW H} {p : List MemPlace} (hv : Value.okWide Tryz.prog W r b0 22 v) (h : DataW.Trod enc Tryz.prog W 0 (fun _ => true) true 22 v d p) :
    ∃ L, RepD (big W) W v (nodes L) := by
  obtain ⟨a, len, cap, rfl⟩ := okWide_slice us_nodes hv
  obtain ⟨fuel, hf⟩ := h
  obtain ⟨v', L, hc, _, hr⟩ := nodes_of hf
  simp [Value.cells] at hc
  subst hc
  exact ⟨L, hr⟩
end Go.Proofs.YtamhkcnpocdfcaaGreatDoor
/- The statements on types: what a row's condition gives: the tables in memory; the wrap. -/
namespace Go.Proofs.YtamhkcnpocdfcaaGreatDoor
open Go.ChangeShapes Go.WideShapes Go.ChangeAt Go.RowKit Go.Deep Go.Sx

theorem Tryz.own : ownKnob Tryz.prog.godebug = none := by kernel_rfl
theorem Tryz.laidOut : laidOutB Tryz.prog = true := by kernel_rfl

section
variable {H : Type} {enc : TypeId × Value → H}
/-- the wrap: the listed variables and the world's shape are handed on -/
theorem wrap_laid {a : Assume} {C : Checked} {os : Os} {f : FuncId} {fn : Func} {s : ChangeSpec} {conds : List PathCond} {apart fresh handsOn again : Bool} {X : World → Array Value → Prop}
    (hX : ∀ (w w' : World) (args : Array Value), w.heap = w'.heap → X w args → X w' args)
    (own : ownKnob C.prog.godebug = none) (started : os.Started) (noInit : C.prog.inits.idxOf? f = none) (hfn : C.prog.funcs[f]? = some fn)
    (witness : ∃ (w : World) (tape : Tape) (i : Input), w.os = os ∧ (w.forCall tape i).Shaped C.prog ∧ i.vars = [] ∧ Input.okWide C.prog (w.forCall tape i) .any w.heap.size f i ∧
      ((s.pre enc C.prog fn conds apart (w.forCall tape i).memory i.args ∧ X (w.forCall tape i).memory i.args) ∧ sizedMet enc C.prog fn (OpenSpec.ofChange s) apart (w.forCall tape i).memory i.args) ∧ a.holds C.prog (lone (Frame.enter C.prog f i.args .normal) [] (w.forCall tape i)))
    (contract : ∀ (W : World) (base : Nat) (args : Array Value) (ds gs : List (DataW H)) (before : List MemPlace),
      (∀ (j : Nat) t v, fn.params[j]? = some t → args[j]? = some v → Value.okWide C.prog W .any base t v) →
      DataW.Whole enc C.prog fn.params.toList s.vars apart W args.toList ds gs before → X W args → W.ShapedOpen C.prog →
      Calls C.prog f args W fun e W' => ∃ v, e = .returned v ∧ s.post enc C.prog fn apart fresh handsOn again W args v W') :
    ReturnsInHanded a C os f .any (fun w args => (s.pre enc C.prog fn conds apart w args ∧ X w args) ∧ sizedMet enc C.prog fn (OpenSpec.ofChange s) apart w args) (s.post enc C.prog fn apart fresh handsOn again) := by
  refine returnsInHanded_of_calls own started noInit witness ?_
  intro w tape i _ hsh _ hok hpre _
  obtain ⟨_, _, _, fn', hfn', _, _, _, _, hval⟩ := hok
  have e : fn' = fn := Option.some.inj (hfn'.symm.trans hfn)
  subst e
  obtain ⟨⟨⟨ds, gs, before, hw, _⟩, hx⟩, _⟩ := hpre
  have hw' := DataW.Whole.of_heap (w' := w.forCall tape i) (by rfl) hw
  refine (contract (w.forCall tape i) w.heap.size i.args ds gs before hval hw' (hX _ _ _ (by rfl) hx) hsh).mono fun e W' ⟨v, he, hp⟩ => ?_
  subst he
  exact ChangeSpec.post_blind hp
end

theorem var_block {P : Program} {W : World} {n : String} {g : Nat} {cs : Array Value} (hg : P.globalNamed n = some g) (hv : W.var? P n = some cs) : ∃ e t, W.heap[g]? = some (.cells cs e t) := by
  simp only [World.var?, hg, Option.bind_some] at hv
  split at hv
  · rename_i h; injection hv with hv; subst hv; exact ⟨_, _, h⟩
  · cases hv

def theLaid : List (String × DataW Unit) := Rows.typTellsRow.laid

theorem glob_of {W : World} (hsh : W.ShapedOpen Tryz.prog) (hL : laidMetH Tryz.prog theLaid W) : Glob (big W) W := by
  rw [MakeChecks.laidMetH_plain _ _ _ (by kernel_rfl)] at hL
  have h2 := laidMet.tail (laidMet.tail hL)
  have e2 : (Rows.laid_internal_strconv_uint64pow10 : DataW Unit) = Lib.tabData .u64 Lib.pow10Tab := by kernel_rfl
  rw [e2] at h2
  have ht := Lib.tabIs_of_head (g := 0) (t := 125) (e := 96) (n := 20) (by kernel_rfl) (by kernel_rfl) (by kernel_rfl) (by kernel_rfl) (by kernel_rfl) (by kernel_rfl) h2
  have h5 := laidMet.tail (laidMet.tail h2)
  have e5 : (Rows.laid_strings_asciiSpace : DataW Unit) = Lib.tabData .u8 Lib.asciiSpaceTab := by kernel_rfl
  rw [e5] at h5
  have hs := Lib.tabIs_of_head (g := 1) (t := 132) (e := 5) (n := 256) (by kernel_rfl) (by kernel_rfl) (by kernel_rfl) (by kernel_rfl) (by kernel_rfl) (by kernel_rfl) h5
  obtain ⟨cs8, hh8, _, _⟩ := hsh.1 6 #[.pointer none] 141 (of_decide_eq_true (by kernel_rfl)) (by kernel_rfl)
  have hsz : 6 < W.heap.size := (Array.getElem?_eq_some_iff.1 hh8).1
  obtain ⟨m, hm⟩ := cell_of_shapedOpen_int (P := Tryz.prog) (g := 5) (t := 3) (zero := #[.int .i64 0]) hsh (of_decide_eq_true (by kernel_rfl)) (by kernel_rfl) rfl (by kernel_rfl) (by kernel_rfl) uint
  obtain ⟨cs0, hh, hc0, _⟩ := hsh.1 5 #[.int .i64 0] 3 (of_decide_eq_true (by kernel_rfl)) (by kernel_rfl)
  have hc : cs0 = #[.int .i64 m] := by
    obtain ⟨l⟩ := cs0
    match l, hc0 with
    | [c], _ =>
      simp [World.cell?, hh] at hm
      rw [hm]
  subst hc
  exact ⟨fun k hk o => Nat.lt_of_lt_of_le hk hsz, ⟨m, _, _, hh⟩, var_block (by kernel_rfl) ht, var_block (by kernel_rfl) hs⟩

end Go.Proofs.YtamhkcnpocdfcaaGreatDoor
