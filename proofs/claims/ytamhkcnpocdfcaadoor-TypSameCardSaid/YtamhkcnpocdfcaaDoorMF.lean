/- Texts of this claim, merged: TypR, TypT, TypYA, TypP, TypYB, NodL, TypZA. -/
import Derived.Test.YtamhkcnpocdfcaaDoorRows
import Derived.ProofKit
import Derived.Deep.Slices
import Derived.Deep.Fields
import Derived.ChangeSame
import Derived.OpenShut
import Derived.LaidMore
import Derived.Lay
import Derived.Stop.Joined
import Derived.Stop.LaidErr
import Derived.Shelf.Vars
import Derived.Lib.LaidTab
import Derived.Test.YtamhkcnpocdfcaaDoorME
/- The statements on types: the law's fun. -/
namespace Go.Proofs.YtamhkcnpocdfcaaDoor
open Go.Sx
theorem hb_lfun : hasBody Tryd.prog 14 = true := by kernel_rfl
attribute [local irreducible] hasBody Program.underlying Ylds astep alex alexE alexD awp PCall FCall RCall MCall QCall athen ablock ajump rpost fpost mpost rpostC
def funN (a b : List Nd) : List Nd := makeF ⟨32, [45, 62], 0, 0⟩ [a, b]
theorem fun_ok (a b : List Nd) (ha : a.length ≤ 900000) (hb : b.length ≤ 900000) : PCall Tryd.prog 14 [nodes a, nodes b] (nodes (funN a b)) := by
  have hm := rMake_ok ⟨32, [45, 62], 0, 0⟩ [a, b] (by simp) (by simp; omega)
  refine pcall_of Tryd.func14 rfl Tryd.ntmps14 Tryd.results14 rfl ?_
  intro wb St0
  repeat' first
    | refine en_n ?_
    | refine awp_seq ?_
    | refine awp_region ?_
    | refine alex_nil ?_
    | refine w0 ?_
    | (apply Y_buildD; exact pl_node; exact zo_node; exact PD_d rfl rfl (PD_d rfl rfl PD_nil); exact rfl)
    | (apply Y_call (hb := hb_rMake) (hc := hm); exact CoL_d rfl (CoL_d rfl CoL_nil))
    | apply ay (hd := rfl)
    | (apply Y_move_d; exact rfl)
    | (apply Y_assign_d; exact rfl)
    | (apply Y_assign_nil; exact rfl)
    | (apply Y_lit2; exact (by first | with_reducible exact ety_binds | with_reducible exact ety_nodes | with_reducible exact ety_ints | with_reducible exact ety_nodess | with_reducible exact ety_toks | with_reducible exact ety_strs | with_reducible exact ety_u8s); exact (by first | with_reducible exact es_binds | with_reducible exact es_nodes | with_reducible exact es_ints | with_reducible exact es_nodess | with_reducible exact es_toks | with_reducible exact es_strs | with_reducible exact es_u8s); exact (by first | with_reducible exact zs_bind | with_reducible exact zs_node | with_reducible exact zs_int | with_reducible exact zs_nodes | with_reducible exact zs_tok | with_reducible exact zs_str | with_reducible exact zs_i64 | with_reducible exact zs_u8); exact rfl; exact rfl; (first | exact CoL_d rfl (CoL_d rfl CoL_nil) | exact CoL_b rfl rfl rfl (CoL_b rfl rfl rfl CoL_nil)); exact rfl)
    | refine awp_ret ?_
    | refine rpost_ret ?_
    | (apply res1; exact rfl)
  all_goals rfl
end Go.Proofs.YtamhkcnpocdfcaaDoor
/- The statements on types: the chapter's example holds. -/
namespace Go.Proofs.YtamhkcnpocdfcaaDoor
open Go.Sx
theorem un_pst : Tryd.prog.underlying 44 = some (.pointer (Tryd.prog.pointee 44)) := by kernel_rfl
def wwI : List Nd := [⟨32, intT, 0, 0⟩]
def wwT : List Nd := [⟨32, texT, 0, 0⟩]
def wwA : List Nd := funN (varN 0) wwI
def wwB : List Nd := funN wwT (varN 1)
def wwF : List Nd := funN (funN (varN 3) wwI) wwT
def wwL : Sto := [(0, wwT), (1, wwI)]
def wwS : List Bd := [⟨0, wwT⟩, ⟨1, wwI⟩]
def wwR (k : Int) : List Nd := if k = 0 then wwT else wwI
def awS : List UInt8 := [40, 39, 51, 32, 45, 62, 32, 105, 110, 116, 41, 32, 45, 62, 32, 116, 101, 120, 116]
theorem aw_u : uniF 10 [] wwA wwB = some (0, wwL) := by decide +kernel
theorem aw_n : uniF 10 [] wwI wwT = some (91, []) := by decide +kernel
theorem aw_v : uniF 10 [] (varN 5) wwI = some (0, [(5, wwI)]) := by decide +kernel
theorem aw_i3 : Lib.itoa 3 = [51] := by rw [Lib.itoa, if_neg (by decide), show (3 : Int).toNat = 3 from rfl, Lib.decDigits_one (by decide)]; rfl
theorem aw_f : wwF = [⟨32, [45, 62], 0, 2⟩, ⟨32, [45, 62], 0, 2⟩, ⟨31, [], 3, 0⟩, ⟨32, intT, 0, 0⟩, ⟨32, texT, 0, 0⟩] := by decide +kernel
theorem aw_s : showF 10 wwF 0 = some (awS, 5) := by
  rw [aw_f]
  simp [showF, argF, aw_i3, foldO, intT, texT, awS]
theorem aw_ck : ckT wwF = 0 ∧ ckT wwI = 0 ∧ ckT (varN 0) = 0 ∧ ckT (varN 1) = 0 ∧ ckT (varN 5) = 0 := by decide +kernel
theorem aw_z : sizeF 10 wwL (varN 0) [] = some (1, [(0, 1)]) ∧ sizeF 10 wwL (varN 1) [] = some (1, [(1, 1)]) ∧ sizeF 10 [(5, wwI)] (varN 5) [] = some (1, [(5, 1)]) := by decide +kernel
theorem aw_r : resF 10 wwL (varN 0) = some wwT ∧ resF 10 wwL (varN 1) = some wwI ∧ resF 10 [(5, wwI)] (varN 5) = some wwI := by decide +kernel
theorem aw_vs : varsF (varN 4) = [4] ∧ canonF (varN 4) = varN 0 ∧ applyF wwS (varN 1) = wwI := by decide +kernel
attribute [local irreducible] hasBody Program.underlying Ylds astep alex alexE alexD awp PCall FCall RCall MCall QCall athen ablock ajump rpost fpost mpost rpostC

set_option maxHeartbeats 4000000 in
theorem awake_ok : PCall Tryd.prog 5 [] (bl true) := by
  have h1 := Unify_yes 10 wwA wwB wwL wwR wwS (by decide) (by decide) aw_u (by intro p hp; simp only [wwL, List.mem_cons, List.not_mem_nil, or_false] at hp; rcases hp with rfl | rfl <;> decide) (by decide)
    (by
      intro p hp
      simp only [wwL, List.mem_cons, List.not_mem_nil, or_false] at hp
      rcases hp with rfl | rfl
      · exact ⟨aw_ck.2.2.1, ⟨10, 1, _, aw_z.1, by decide⟩, ⟨10, aw_r.1⟩, by decide⟩
      · exact ⟨aw_ck.2.2.2.1, ⟨10, 1, _, aw_z.2.1, by decide⟩, ⟨10, aw_r.2.1⟩, by decide⟩)
    (List.Perm.refl _) (by simp [wwS])
  have h2 := Unify_no 10 wwI wwT 91 [] (by decide) (by decide) aw_n (by decide)
  have h3 := Show_ok wwF (by decide) (by rw [aw_f]; decide) aw_ck.1 10 awS 5 aw_s (by decide)
  have h4 := SUnify_ok 6 10 [] (varN 5) wwI 0 [(5, wwI)] (by decide) (by decide) (fun p hp => by cases hp) aw_v
  have h5 := Resolve_ok 6 [(5, wwI)] (varN 5) wwI 10 10 1 _ (by intro p hp; simp only [List.mem_cons, List.not_mem_nil, or_false] at hp; subst hp; decide) (by decide) aw_ck.2.2.2.2 aw_z.2.2 (by decide) aw_r.2.2 (by decide)
  have h6 := Vars_ok (varN 4) (by decide)
  rw [aw_vs.1] at h6
  have h7 := Canon_ok (varN 4) (by decide)
  rw [aw_vs.2.1] at h7
  have h8 := Apply_ok wwS (varN 1) (by decide) (by decide) (by intro b hb; simp only [wwS, List.mem_cons, List.not_mem_nil, or_false] at hb; rcases hb with rfl | rfl <;> decide)
  rw [aw_vs.2.2] at h8
  have h9 := Check_ok wwI (by decide)
  rw [aw_ck.2.1] at h9
  have s1 := Same_ok wwT wwT (by decide)
  have s2 := Same_ok wwI wwI (by decide)
  have s3 := Same_ok (varN 5) (varN 5) (by decide)
  have s4 := Same_ok (varN 0) (varN 0) (by decide)
  rw [decide_eq_true rfl] at s1 s2 s3 s4
  have r1 := Row_ok [4] [4] (by decide)
  rw [decide_eq_true rfl] at r1
  have f1 := fun_ok (varN 0) wwI (by decide) (by decide)
  have f2 := fun_ok wwT (varN 1) (by decide) (by decide)
  have f3 := fun_ok (varN 3) wwI (by decide) (by decide)
  have f4 := fun_ok (funN (varN 3) wwI) wwT (by decide) (by decide)
  refine pcall_of Tryd.func5 rfl Tryd.ntmps5 Tryd.results5 rfl ?_
  intro wb St0
  repeat' first
    | (apply aJ (L := wwS) (enc := Bd.av) (hd := rfl); exact Co_dd rfl; exact rfl; (with_reducible exact es_binds); exact rfl; decide; exact fun _ => rfl)
    | refine en_n ?_
    | refine awp_seq ?_
    | refine awp_region ?_
    | refine alex_nil ?_
    | refine w0 ?_
    | (refine Y_buildD (cs := [.val (.int .i64 32), .val (.string ⟨intT.toArray⟩), .val (.int .i64 0), .val (.int .i64 0)]) pl_node zo_node (PD_d rfl rfl (PD_d rfl rfl PD_nil)) rfl)
    | (refine Y_buildD (cs := [.val (.int .i64 32), .val (.string ⟨texT.toArray⟩), .val (.int .i64 0), .val (.int .i64 0)]) pl_node zo_node (PD_d rfl rfl (PD_d rfl rfl PD_nil)) rfl)
    | (apply Y_strT; exact rfl; exact rfl; exact rfl)
    | (apply Y_eqlT; exact rfl; exact rfl; exact rfl)
    | (apply Y_call (hb := hb_lvariable) (hc := lvariable_ok _))
    | (refine Y_call hb_lfun f1 (CoL_d rfl (CoL_d rfl CoL_nil)))
    | (refine Y_call hb_lfun f2 (CoL_d rfl (CoL_d rfl CoL_nil)))
    | (refine Y_call hb_lfun f3 (CoL_d rfl (CoL_d rfl CoL_nil)))
    | (refine Y_call hb_lfun f4 (CoL_d rfl (CoL_d rfl CoL_nil)))
    | (refine Y_call hb_Unify h1 (CoL_d rfl (CoL_d rfl CoL_nil)))
    | (refine Y_call hb_Unify h2 (CoL_d rfl (CoL_d rfl CoL_nil)))
    | (refine Y_call hb_Show h3 (CoL_d rfl CoL_nil))
    | (refine aNCall [] hb_NewStore (NewStore_ok 5) ?_ rfl rfl (by decide) rfl rfl rfl rfl rfl rfl ?_; (repeat (refine SArgs_cons rfl ?_)); exact SArgs_nil)
    | (apply Y_eqnil_p; exact rfl; exact rfl; exact un_pst)
    | (refine aMCall [1, 0] hb_Fresh (Fresh_ok 5 [] (by decide)) ?_ rfl rfl (by decide) rfl rfl rfl rfl rfl rfl ?_; (repeat (refine SArgs_cons rfl ?_)); exact SArgs_nil)
    | (refine aMCall [1, 0] hb_SUnify (h4) ?_ rfl rfl (by decide) rfl rfl rfl rfl rfl rfl ?_; (repeat (refine SArgs_cons rfl ?_)); exact SArgs_nil)
    | (refine aMCall [1, 0] hb_Resolve (h5) ?_ rfl rfl (by decide) rfl rfl rfl rfl rfl rfl ?_; (repeat (refine SArgs_cons rfl ?_)); exact SArgs_nil)
    | (apply Y_ext0; exact rfl)
    | (apply Y_ext1; exact rfl)
    | (refine Y_copy (x := .tmp 55) (s := .pair (.d (nodes wwI)) (.d (i64 0))) (.inl rfl) rfl)
    | (refine Y_call hb_Same s1 (CoL_d rfl (CoL_d rfl CoL_nil)))
    | (refine Y_call hb_Same s2 (CoL_d rfl (CoL_d rfl CoL_nil)))
    | (refine Y_call hb_Same s3 (CoL_d rfl (CoL_d rfl CoL_nil)))
    | (refine Y_call hb_Same s4 (CoL_d rfl (CoL_d rfl CoL_nil)))
    | (refine Y_call hb_Check h9 (CoL_d rfl CoL_nil))
    | (refine Y_call hb_Vars h6 (CoL_d rfl CoL_nil))
    | (refine Y_call hb_Row r1 (CoL_d rfl (CoL_d rfl CoL_nil)))
    | (refine Y_call hb_Canon h7 (CoL_d rfl CoL_nil))
    | (refine Y_call hb_Apply h8 (CoL_d rfl (CoL_d rfl CoL_nil)))
    | apply ay (hd := rfl)
    | (apply Y_move_d; exact rfl)
    | (apply Y_assign_d; exact rfl)
    | (apply Y_field_r; exact rfl; exact (by first | with_reducible exact fb_0 | with_reducible exact fb_1 | with_reducible exact fs_0 | with_reducible exact fs_1 | with_reducible exact fn_0 | with_reducible exact fn_1 | with_reducible exact fn_2 | with_reducible exact fn_3 | with_reducible exact fo_0 | with_reducible exact fo_1 | with_reducible exact fo_2 | with_reducible exact fo_3))
    | (apply Y_load_r1; exact rfl; exact (by first | with_reducible exact tc_bind | with_reducible exact tc_m51 | with_reducible exact tc_m68 | with_reducible exact tc_pst | with_reducible exact tc_pf | with_reducible exact tcn_int | with_reducible exact tc_nodes | with_reducible exact tc_node | with_reducible exact tc_ints | with_reducible exact tcn_kind | with_reducible exact tcn_i64 | with_reducible exact tcn_str | with_reducible exact tcn_bool | with_reducible exact tc_str | with_reducible exact tc_int | with_reducible exact tc_kind | with_reducible exact tc_tok | with_reducible exact tc_u8s | with_reducible exact tc_toks | with_reducible exact tc_strs | with_reducible exact tc_bool | with_reducible exact tc_err | with_reducible exact tc_i64))
    | (apply Y_len_m; exact rfl; exact (by first | with_reducible exact et_binds | with_reducible exact et_nodes | with_reducible exact et_ints | with_reducible exact et_nodess | with_reducible exact et_toks | with_reducible exact et_strs | with_reducible exact et_u8s))
    | (apply Y_pick_t; exact rfl; exact rfl)
    | (apply Y_extract; exact rfl; exact rfl)
    | (apply Y_move_ptr; exact rfl)
    | (apply Y_assign_ptr; exact rfl)
    | (apply Y_lit1; exact (by first | with_reducible exact ety_binds | with_reducible exact ety_nodes | with_reducible exact ety_ints | with_reducible exact ety_nodess | with_reducible exact ety_toks | with_reducible exact ety_strs | with_reducible exact ety_u8s); exact (by first | with_reducible exact es_binds | with_reducible exact es_nodes | with_reducible exact es_ints | with_reducible exact es_nodess | with_reducible exact es_toks | with_reducible exact es_strs | with_reducible exact es_u8s); exact (by first | with_reducible exact zs_bind | with_reducible exact zs_node | with_reducible exact zs_int | with_reducible exact zs_nodes | with_reducible exact zs_tok | with_reducible exact zs_str | with_reducible exact zs_i64 | with_reducible exact zs_u8); exact rfl; exact rfl; (first | exact CoL_d rfl CoL_nil | exact CoL_b rfl rfl rfl CoL_nil | exact CoL_n rfl CoL_nil); exact rfl)
    | (apply w1; exact rfl; exact rfl)
    | (apply awp_condF; exact rfl)
    | refine awp_skip ?_
    | refine awp_ret ?_
    | refine rpost_ret ?_
    | (apply res1; exact rfl)
    | exact CoL_nil
    | refine CoL_d rfl ?_
  all_goals rfl
end Go.Proofs.YtamhkcnpocdfcaaDoor
/- The statements on types: the walk of the law Same. -/
namespace Go.Proofs.YtamhkcnpocdfcaaDoor
open Go.Sx
theorem few_len {t : List Nd} (h : fewT t = true) : t.length ≤ 60 := by rw [fewT, Bool.and_eq_true] at h; exact of_decide_eq_true h.1
theorem not_few {t : List Nd} (h : ¬ fewT t = true) : fewT t = false := by
  cases h2 : fewT t with
  | false => rfl
  | true => exact absurd h2 h
theorem apply_len {l : List Bd} (hl : ∀ b ∈ l, b.ty.length ≤ 4000) : ∀ t : List Nd, (applyF l t).length ≤ 4000 * t.length
  | [] => Nat.le_refl _
  | n :: r => by
    have ih := apply_len hl r
    have h1 : (app1 l n).length ≤ 4000 := by
      unfold app1
      split
      · split
        · rename_i b hb; exact hl b (List.mem_of_find?_eq_some hb)
        · simp
      · simp
    rw [show applyF l (n :: r) = app1 l n ++ applyF l r from rfl, List.length_append, List.length_cons]; omega
attribute [local irreducible] hasBody Program.underlying Ylds astep alex alexE alexD awp PCall FCall RCall MCall QCall athen ablock ajump rpost fpost mpost rpostC
set_option maxHeartbeats 4000000 in
theorem Same_law (a b : List Nd) : PCall Tryd.prog 3 [nodes a, nodes b] (bl true) := by
  have hFa := Few_ok a
  have hFb := Few_ok b
  by_cases hfa : fewT a = true
  · rw [hfa] at hFa
    have hla := few_len hfa
    by_cases hfb : fewT b = true
    · rw [hfb] at hFb
      have hlb := few_len hfb
      have hOa := own_ok a (by omega)
      have hOb := own_ok b (by omega)
      obtain ⟨l, e, hU, hC⟩ := Unify_UR a b (by omega) (by omega)
      rcases hU.made with ⟨he, rfl⟩ | ⟨rfl, hM⟩
      · refine pcall_of Tryd.func3 rfl Tryd.ntmps3 Tryd.results3 rfl ?_
        intro wb St0
        repeat' first
          | refine en_n ?_
          | refine awp_seq ?_
          | refine awp_region ?_
          | refine alex_nil ?_
          | refine w0 ?_
          | (apply Y_neqT; exact rfl; exact rfl; first | assumption | omega)
          | (refine Y_call hb_awake awake_ok CoL_nil)
          | (refine Y_call hb_Few hFa (CoL_d rfl CoL_nil))
          | (refine Y_call hb_Few hFb (CoL_d rfl CoL_nil))
          | (refine Y_call hb_own hOa (CoL_d rfl CoL_nil))
          | (refine Y_call hb_own hOb (CoL_d rfl CoL_nil))
          | (refine Y_call hb_Unify hC (CoL_d rfl (CoL_d rfl CoL_nil)))
          | apply ay (hd := rfl)
          | (apply Y_move_d; exact rfl)
          | (apply Y_assign_d; exact rfl)
          | (apply Y_len_m; exact rfl; exact (by first | with_reducible exact et_binds | with_reducible exact et_nodes | with_reducible exact et_ints | with_reducible exact et_nodess | with_reducible exact et_toks | with_reducible exact et_strs | with_reducible exact et_u8s))
          | (apply Y_eql; exact rfl; exact rfl)
          | (apply Y_not; exact rfl)
          | (apply Y_pick_f; exact rfl; exact rfl)
          | (apply Y_extract; exact rfl; exact rfl)
          | (apply w1; exact rfl; exact rfl)
          | (apply awp_condT; exact rfl)
          | (apply awp_condF; exact rfl)
          | refine awp_skip ?_
          | refine awp_ret ?_
          | refine en_r ?_
          | refine rpost_ret ?_
          | (apply res1; exact rfl)
        all_goals rfl
      · have hx := apply_len hM.len a
        have hy := apply_len hM.len b
        have hll : l.length ≤ 2000000 := Nat.le_trans hM.few (by omega)
        have hAa := Apply_ok l a hll (by omega) (fun x h => Nat.le_trans (hM.len x h) (by omega))
        have hAb := Apply_ok l b hll (by omega) (fun x h => Nat.le_trans (hM.len x h) (by omega))
        rw [← hM.same] at hAb hy
        have hAl : ∀ x ∈ l, PCall Tryd.prog 9 [binds l, nodes x.ty] (nodes x.ty) := fun x h => by
          have h1 := Apply_ok l x.ty hll (Nat.le_trans (hM.len x h) (by omega)) (fun x h => Nat.le_trans (hM.len x h) (by omega))
          rw [hM.idem x h] at h1; exact h1
        have hSl : ∀ x ∈ l, PCall Tryd.prog 10 [nodes x.ty, nodes x.ty] (bl true) := fun x h => by
          have h1 := Same_ok x.ty x.ty (Nat.le_trans (hM.len x h) (by omega))
          rw [decide_eq_true rfl] at h1; exact h1
        have hS := Same_ok (applyF l a) (applyF l a) (by omega)
        rw [decide_eq_true rfl] at hS
        obtain ⟨m, f, hU2, hC2⟩ := Unify_UR (applyF l a) (applyF l a) (by omega) (by omega)
        have hag := fun h => hM.again h m f (hM.same ▸ hU2)
        have hso := hM.sorted
        generalize applyF l a = z at *
        refine pcall_of Tryd.func3 rfl Tryd.ntmps3 Tryd.results3 rfl ?_
        intro wb St0
        repeat' first
          | refine en_n ?_
          | refine awp_seq ?_
          | refine awp_region ?_
          | refine alex_nil ?_
          | refine w0 ?_
          | (apply Y_neqF; exact rfl; exact rfl; first | assumption | omega)
          | (refine Y_call hb_awake awake_ok CoL_nil)
          | (refine Y_call hb_Few hFa (CoL_d rfl CoL_nil))
          | (refine Y_call hb_Few hFb (CoL_d rfl CoL_nil))
          | (refine Y_call hb_own hOa (CoL_d rfl CoL_nil))
          | (refine Y_call hb_own hOb (CoL_d rfl CoL_nil))
          | (refine Y_call hb_Unify hC (CoL_d rfl (CoL_d rfl CoL_nil)))
          | (refine Y_call hb_Apply hAa (CoL_d rfl (CoL_d rfl CoL_nil)))
          | (refine Y_call hb_Apply hAb (CoL_d rfl (CoL_d rfl CoL_nil)))
          | apply ay (hd := rfl)
          | (apply Y_move_d; exact rfl)
          | (apply Y_assign_d; exact rfl)
          | (apply Y_not; exact rfl)
          | (apply Y_pick_f; exact rfl; exact rfl)
          | (apply Y_extract; exact rfl; exact rfl)
          | (apply w1; exact rfl; exact rfl)
          | (apply awp_condF; exact rfl)
          | refine awp_block ?_
          | refine awp_skip ?_
        refine awp_loopF (α := Nat) (fun i => i ≤ l.length) (fun i => [(5, .d (binds l)), (7, .d (nodes z)), (8, .d (nodes z)), (9, .d (i64 (i : Int)))]) (fun _ => []) (fun i => l.length - i) 0 (Nat.zero_le _)
          (Fits_mk (Le_cons rfl (Le_cons rfl (Le_cons rfl (Le_cons rfl Le_nil)))) Pre_nil rfl rfl) ?_
        intro i hi
        repeat' first
          | refine en_n ?_
          | refine awp_seq ?_
          | refine awp_region ?_
          | refine alex_nil ?_
          | refine w0 ?_
          | (apply k1u (hd := rfl); exact rfl; exact rfl)
          | (refine Y_call hb_Apply (hAl _ (List.mem_of_getElem? hv)) (CoL_d rfl (CoL_d rfl CoL_nil)))
          | (refine Y_call hb_Same (hSl _ (List.mem_of_getElem? hv)) (CoL_d rfl (CoL_d rfl CoL_nil)))
          | (refine Y_call hb_Same hS (CoL_d rfl (CoL_d rfl CoL_nil)))
          | (refine Y_call hb_Unify hC2 (CoL_d rfl (CoL_d rfl CoL_nil)))
          | (apply aJ (hd := rfl); (first | exact Co_dd rfl | exact Co_bb rfl rfl rfl | exact Co_nn rfl); exact rfl; exact (by first | with_reducible exact es_binds | with_reducible exact es_nodes | with_reducible exact es_ints | with_reducible exact es_nodess | with_reducible exact es_toks | with_reducible exact es_strs | with_reducible exact es_u8s); assumption; omega; exact fun _ => rfl)
          | (apply aI (hd := rfl); (first | exact Co_dd rfl | exact Co_bb rfl rfl rfl | exact Co_nn rfl); exact rfl; exact (by first | with_reducible exact es_binds | with_reducible exact es_nodes | with_reducible exact es_ints | with_reducible exact es_nodess | with_reducible exact es_toks | with_reducible exact es_strs | with_reducible exact es_u8s); exact fun _ => rfl; rotate_left; intro v hv; rotate_right)
          | apply ay (hd := rfl)
          | (apply Y_move_d; exact rfl)
          | (apply Y_assign_d; exact rfl)
          | (apply Y_field_r; exact rfl; exact (by first | with_reducible exact fb_0 | with_reducible exact fb_1 | with_reducible exact fs_0 | with_reducible exact fs_1 | with_reducible exact fn_0 | with_reducible exact fn_1 | with_reducible exact fn_2 | with_reducible exact fn_3 | with_reducible exact fo_0 | with_reducible exact fo_1 | with_reducible exact fo_2 | with_reducible exact fo_3))
          | (apply Y_load_r1; exact rfl; exact (by first | with_reducible exact tc_bind | with_reducible exact tc_m51 | with_reducible exact tc_m68 | with_reducible exact tc_pst | with_reducible exact tc_pf | with_reducible exact tcn_int | with_reducible exact tc_nodes | with_reducible exact tc_node | with_reducible exact tc_ints | with_reducible exact tcn_kind | with_reducible exact tcn_i64 | with_reducible exact tcn_str | with_reducible exact tcn_bool | with_reducible exact tc_str | with_reducible exact tc_int | with_reducible exact tc_kind | with_reducible exact tc_tok | with_reducible exact tc_u8s | with_reducible exact tc_toks | with_reducible exact tc_strs | with_reducible exact tc_bool | with_reducible exact tc_err | with_reducible exact tc_i64))
          | (apply Y_len_m; exact rfl; exact (by first | with_reducible exact et_binds | with_reducible exact et_nodes | with_reducible exact et_ints | with_reducible exact et_nodess | with_reducible exact et_toks | with_reducible exact et_strs | with_reducible exact et_u8s))
          | (apply Y_lss; exact rfl; exact rfl)
          | (apply Y_gtr; exact rfl; exact rfl)
          | (apply Y_geq; exact rfl; exact rfl)
          | (apply Y_eql; exact rfl; exact rfl)
          | (apply Y_add; exact rfl; exact rfl)
          | (apply Y_sub; exact rfl; exact rfl)
          | (apply Y_not; exact rfl)
          | (apply Y_pick_t; exact rfl; exact rfl)
          | (apply Y_pick_f; exact rfl; exact rfl)
          | (apply Y_extract; exact rfl; exact rfl)
          | (apply w1; exact rfl; exact rfl)
          | (apply k1 (hd := rfl); exact rfl; exact rfl)
          | (apply k0 (hd := rfl); exact rfl; exact rfl)
          | (apply gD; exact rfl; exact rfl; (intro hb); rotate_left; (intro hb); rotate_right)
          | (apply awp_condD; exact rfl; (intro hb); rotate_left; (intro hb); rotate_right)
          | (apply awp_condT; exact rfl)
          | (apply awp_condF; exact rfl)
          | refine awp_block ?_
          | refine awp_skip ?_
          | refine awp_ret ?_
          | refine awp_exit ?_
          | refine awp_draw (by kernel_rfl) (by kernel_rfl) ?_
          | refine en_r ?_
          | refine en_e ?_
          | refine eb_n ?_
          | refine eb_r ?_
          | refine eb_e ?_
          | refine rpost_ret ?_
          | (apply res1; exact rfl)
        all_goals try omega
        · rename_i hv'
          have := sorted_at hso hv' hv (by omega)
          omega
        · exact ⟨i + 1, by omega, by omega, Fits_mk (Le_cons rfl (Le_cons rfl (Le_cons rfl (Le_cons rfl Le_nil)))) Pre_nil rfl rfl⟩
        · exact ⟨i + 1, by omega, by omega, Fits_mk (Le_cons rfl (Le_cons rfl (Le_cons rfl (Le_cons rfl Le_nil)))) Pre_nil rfl rfl⟩
        · rfl
        · rw [(hag (by omega)).2]; rfl
        · rename_i h4
          exact absurd (by rw [(hag (by omega)).1]; rfl) hb
    · rw [not_few hfb] at hFb
      refine pcall_of Tryd.func3 rfl Tryd.ntmps3 Tryd.results3 rfl ?_
      intro wb St0
      repeat' first
        | refine en_n ?_
        | refine awp_seq ?_
        | refine awp_region ?_
        | refine alex_nil ?_
        | refine w0 ?_
        | (refine Y_call hb_awake awake_ok CoL_nil)
        | (refine Y_call hb_Few hFa (CoL_d rfl CoL_nil))
        | (refine Y_call hb_Few hFb (CoL_d rfl CoL_nil))
        | apply ay (hd := rfl)
        | (apply Y_move_d; exact rfl)
        | (apply Y_assign_d; exact rfl)
        | (apply Y_not; exact rfl)
        | (apply Y_pick_f; exact rfl; exact rfl)
        | (apply w1; exact rfl; exact rfl)
        | (apply awp_condT; exact rfl)
        | refine awp_ret ?_
        | refine en_r ?_
        | refine rpost_ret ?_
        | (apply res1; exact rfl)
      all_goals rfl
  · rw [not_few hfa] at hFa
    refine pcall_of Tryd.func3 rfl Tryd.ntmps3 Tryd.results3 rfl ?_
    intro wb St0
    repeat' first
      | refine en_n ?_
      | refine awp_seq ?_
      | refine awp_region ?_
      | refine alex_nil ?_
      | refine w0 ?_
      | (apply k0u (hd := rfl); exact rfl; exact rfl)
      | (refine Y_call hb_awake awake_ok CoL_nil)
      | (refine Y_call hb_Few hFa (CoL_d rfl CoL_nil))
      | apply ay (hd := rfl)
      | (apply Y_move_d; exact rfl)
      | (apply Y_assign_d; exact rfl)
      | (apply Y_not; exact rfl)
      | (apply Y_pick_t; exact rfl; exact rfl)
      | (apply Y_pick_f; exact rfl; exact rfl)
      | (apply w1; exact rfl; exact rfl)
      | (apply awp_condT; exact rfl)
      | refine awp_ret ?_
      | refine en_r ?_
      | refine rpost_ret ?_
      | (apply res1; exact rfl)
    all_goals rfl
end Go.Proofs.YtamhkcnpocdfcaaDoor
/- The statements on types, in plain words: numbered from 0 on a type is a type, and numbered again it is the same. -/
namespace Go.Proofs.YtamhkcnpocdfcaaDoor

theorem addV_nodup {acc : List Int} (h : acc.Nodup) (n : Nd) : (addV acc n).Nodup := by
  unfold addV
  split
  · rename_i c
    exact List.nodup_append.2 ⟨h, by simp, fun a ha b hb e => by rw [List.mem_singleton] at hb; subst hb; subst e; exact c.2 ha⟩
  · exact h
theorem fold_nodup : ∀ (L : List Nd) {acc : List Int}, acc.Nodup → (L.foldl addV acc).Nodup
  | [], _, h => h
  | n :: L, _, h => fold_nodup L (addV_nodup h n)
theorem fold_mem : ∀ (L : List Nd) {acc : List Int} {x : Int}, x ∈ L.foldl addV acc ↔ x ∈ acc ∨ Vin x L
  | [], acc, x => by simp [Vin_nil]
  | n :: L, acc, x => by
    rw [List.foldl_cons, fold_mem L, Vin_cons]
    unfold addV
    split
    · rename_i c
      rw [List.mem_append, List.mem_singleton]
      constructor
      · rintro ((h | h) | h)
        · exact .inl h
        · exact .inr (.inl ⟨c.1, h.symm⟩)
        · exact .inr (.inr h)
      · rintro (h | ⟨_, h⟩ | h)
        · exact .inl (.inl h)
        · exact .inl (.inr h.symm)
        · exact .inr h
    · rename_i c
      constructor
      · rintro (h | h)
        · exact .inl h
        · exact .inr (.inr h)
      · rintro (h | ⟨h1, h2⟩ | h)
        · exact .inl h
        · exact .inl (Classical.byContradiction fun d => c ⟨h1, by rw [h2]; exact d⟩)
        · exact .inr h
theorem varsG_mem {L : List Nd} {x : Int} : x ∈ varsG L ↔ Vin x L := by rw [varsG, fold_mem]; simp
theorem varsG_nodup (L : List Nd) : (varsG L).Nodup := fold_nodup L List.nodup_nil
/-- a node's new number -/
def ren (f : Int → Int) (n : Nd) : Nd := if n.kind = 31 then { n with num := f n.num } else n
theorem ren_kind (f : Int → Int) (n : Nd) : (ren f n).kind = n.kind := by unfold ren; split <;> rfl
theorem fold_ren {f : Int → Int} : ∀ (L : List Nd) (acc : List Int), (∀ x y, (x ∈ acc ∨ Vin x L) → (y ∈ acc ∨ Vin y L) → f x = f y → x = y) → (L.map (ren f)).foldl addV (acc.map f) = (L.foldl addV acc).map f
  | [], acc, _ => rfl
  | n :: L, acc, hi => by
    have hstep : addV (acc.map f) (ren f n) = (addV acc n).map f := by
      unfold addV
      by_cases hk : n.kind = 31
      · have hn : (ren f n).num = f n.num := by rw [ren, if_pos hk]
        by_cases hm : n.num ∈ acc
        · rw [if_neg (fun c => c.2 (by rw [hn]; exact List.mem_map.2 ⟨_, hm, rfl⟩)), if_neg (fun c => c.2 hm)]
        · have hm2 : (ren f n).num ∉ acc.map f := fun c => by
            rw [hn] at c
            obtain ⟨y, hy, e⟩ := List.mem_map.1 c
            have := hi y n.num (.inl hy) (.inr (Vin_cons.2 (.inl ⟨hk, rfl⟩))) e
            exact hm (this ▸ hy)
          rw [if_pos ⟨by rw [ren_kind]; exact hk, hm2⟩, if_pos ⟨hk, hm⟩, List.map_append, hn]; rfl
      · rw [if_neg (fun c => hk (by rw [← ren_kind f n]; exact c.1)), if_neg (fun c => hk c.1)]
    rw [List.map_cons, List.foldl_cons, List.foldl_cons, hstep]
    have mem : ∀ x, (x ∈ addV acc n ∨ Vin x L) → (x ∈ acc ∨ Vin x (n :: L)) := fun x h => by
      rw [← fold_mem (L := L)] at h; rw [← fold_mem (L := n :: L)]; exact h
    exact fold_ren L (addV acc n) fun x y hx hy e => hi x y (mem x hx) (mem y hy) e
/-- where it is -/
theorem idx_at {A : List Int} (hn : A.Nodup) {i : Nat} {x : Int} (h : A[i]? = some x) : idxF A x = i := by
  refine idx_hit (fun j hj c => ?_) h
  have hi : i < A.length := (List.getElem?_eq_some_iff.1 h).1
  obtain ⟨_, h1⟩ := List.getElem?_eq_some_iff.1 h
  obtain ⟨hj2, h2⟩ := List.getElem?_eq_some_iff.1 c
  have := (List.getElem_inj hn).1 (h2.trans h1.symm)
  omega
theorem idx_inj {A : List Int} (hn : A.Nodup) {x y : Int} (hx : x ∈ A) (hy : y ∈ A) (h : idxF A x = idxF A y) : x = y := by
  obtain ⟨i, hi⟩ := List.mem_iff_getElem?.1 hx
  obtain ⟨j, hj⟩ := List.mem_iff_getElem?.1 hy
  rw [idx_at hn hi, idx_at hn hj] at h
  have : i = j := by omega
  subst this
  rw [hi] at hj; injection hj
def upto (n : Nat) : List Int := (List.range n).map fun (i : Nat) => (i : Int)
theorem upto_len (n : Nat) : (upto n).length = n := by simp [upto]
theorem upto_get {n i : Nat} {x : Int} (h : (upto n)[i]? = some x) : x = i := by
  rw [upto, List.getElem?_map] at h
  by_cases hi : i < n
  · rw [List.getElem?_range hi] at h; injection h with h; exact h.symm
  · rw [List.getElem?_eq_none (by simp; omega)] at h; cases h
theorem upto_nodup (n : Nat) : (upto n).Nodup := by
  have := (List.nodup_range (n := n))
  rw [upto, List.Nodup, List.pairwise_map]
  exact this.imp fun h e => h (by omega)
theorem idx_all {A : List Int} (hn : A.Nodup) : A.map (idxF A) = upto A.length := by
  refine List.ext_getElem? fun i => ?_
  rw [List.getElem?_map, upto, List.getElem?_map]
  by_cases hi : i < A.length
  · rw [List.getElem?_range hi, List.getElem?_eq_getElem hi, Option.map_some, Option.map_some, idx_at hn (List.getElem?_eq_getElem hi)]
  · rw [List.getElem?_eq_none (by omega), List.getElem?_eq_none (by simp; omega)]; rfl
theorem canon_law {L : List Nd} (h : okT L = true) : okT (canonF L) = true ∧ varsF (canonF L) = upto (varsF L).length ∧ canonF (canonF L) = canonF L ∧ (canonF L).length = L.length := by
  have ty := ty_of h
  have hc : canonF L = L.map (ren (idxF (varsG L))) := by rw [canonF, if_pos h]; rfl
  have hv : varsF L = varsG L := by rw [varsF, if_pos h]
  have hlen : (canonF L).length = L.length := by rw [hc, List.length_map]
  have hvl := varsG_len L []
  rw [show L.foldl addV [] = varsG L from rfl, List.length_nil, Nat.zero_add] at hvl
  have hl := (okT_len h).1
  have hg : varsG (canonF L) = upto (varsG L).length := by
    rw [hc, ← idx_all (varsG_nodup L)]
    refine fold_ren L [] fun x y hx hy e => ?_
    simp only [List.not_mem_nil, false_or] at hx hy
    exact idx_inj (varsG_nodup L) (varsG_mem.2 hx) (varsG_mem.2 hy) e
  have hidx : ∀ n ∈ L, n.kind = 31 → ∃ i : Nat, i < (varsG L).length ∧ idxF (varsG L) n.num = i := fun n hn hk => by
    obtain ⟨i, hi⟩ := List.mem_iff_getElem?.1 (varsG_mem.2 (⟨n, hn, hk, rfl⟩ : Vin n.num L))
    exact ⟨i, (List.getElem?_eq_some_iff.1 hi).1, idx_at (varsG_nodup L) hi⟩
  have hok : okT (canonF L) = true := by
    refine ok_of ?_ (by omega)
    have e : canonF L = sub (fun x => [vN (idxF (varsG L) x)]) L := by
      rw [hc, sub]
      have : ∀ n ∈ L, sub1 (fun x => [vN (idxF (varsG L) x)]) n = [ren (idxF (varsG L)) n] := fun n hn => by
        unfold sub1 ren
        by_cases hk : n.kind = 31
        · rw [if_pos hk, if_pos hk]
          have e := (ty.lf n hn hk).1
          rw [e]; rfl
        · rw [if_neg hk, if_neg hk]
      clear hc hlen hg hidx hvl hv h ty hl
      revert this
      generalize varsG L = vs
      intro this
      induction L with
      | nil => rfl
      | cons n r ih => rw [List.flatMap_cons, this n List.mem_cons_self, List.map_cons, ih (fun m hm => this m (List.mem_cons_of_mem _ hm))]; rfl
    rw [e]
    refine ty.sub fun x hx => ?_
    obtain ⟨n, hn, hk, rfl⟩ := hx
    obtain ⟨i, hi, e⟩ := hidx n hn hk
    exact Ty_var (by rw [e]; omega)
  refine ⟨hok, by rw [varsF, if_pos hok, hg, hv], ?_, hlen⟩
  have h2 : canonF (canonF L) = (canonF L).map (ren (idxF (upto (varsG L).length))) := by
    rw [← hg]; conv => lhs; rw [canonF, if_pos hok]
    rfl
  rw [h2, hc, List.map_map]
  refine List.map_congr_left fun n hn => ?_
  show ren _ (ren _ n) = ren _ n
  by_cases hk : n.kind = 31
  · obtain ⟨i, hi, e⟩ := hidx n hn hk
    have e1 : ren (idxF (varsG L)) n = { n with num := (i : Int) } := by rw [ren, if_pos hk, e]
    have e2 : idxF (upto (varsG L).length) (i : Int) = i := idx_at (upto_nodup _) (by rw [upto, List.getElem?_map, List.getElem?_range hi]; rfl)
    rw [e1, ren, if_pos (show ({ n with num := (i : Int) } : Nd).kind = 31 from hk)]
    show ({ n with num := idxF (upto (varsG L).length) (i : Int) } : Nd) = _
    rw [e2]
  · rw [ren, if_neg (by rw [ren_kind]; exact hk)]
end Go.Proofs.YtamhkcnpocdfcaaDoor
/- The statements on types: the walk of the law Canons. -/
namespace Go.Proofs.YtamhkcnpocdfcaaDoor
open Go.Sx
attribute [local irreducible] hasBody Program.underlying Ylds astep alex alexE alexD awp PCall FCall RCall MCall QCall athen ablock ajump rpost fpost mpost rpostC
set_option maxHeartbeats 4000000 in
theorem Canons_ok (t : List Nd) : PCall Tryd.prog 4 [nodes t] (bl true) := by
  have hF := Few_ok t
  by_cases hf : fewT t = true
  · rw [hf] at hF
    have hl : t.length ≤ 60 := by rw [fewT, Bool.and_eq_true] at hf; exact of_decide_eq_true hf.1
    have hO := own_ok t (by omega)
    have hC := Check_ok t (by omega)
    by_cases hk : ckT t = 0
    · rw [hk] at hC
      obtain ⟨l1, l2, l3, l4⟩ := canon_law (ck_ok.1 hk)
      have hN := Canon_ok t (by omega)
      have hO2 := own_ok (canonF t) (by omega)
      have hV := Vars_ok (canonF t) (by omega)
      rw [l2] at hV
      have hV2 := Vars_ok t (by omega)
      have hN2 := Canon_ok (canonF t) (by omega)
      rw [l3] at hN2
      have hS := Same_ok (canonF t) (canonF t) (by omega)
      rw [decide_eq_true rfl] at hS
      have hul := upto_len (varsF t).length
      have hup : ∀ (i : Nat) (x : Int), (upto (varsF t).length)[i]? = some x → x = i := fun i x h => upto_get h
      have hvl : (varsF t).length ≤ 60 := by
        have := varsG_len t []
        rw [varsF, if_pos (ck_ok.1 hk)]; exact Nat.le_trans this (by simp only [List.length_nil]; omega)
      generalize canonF t = c at *
      generalize hk2 : upto (varsF t).length = v at *
      clear l1 l2 l3 hk2
      refine pcall_of Tryd.func4 rfl Tryd.ntmps4 Tryd.results4 rfl ?_
      intro wb St0
      repeat' first
        | refine en_n ?_
        | refine awp_seq ?_
        | refine awp_region ?_
        | refine alex_nil ?_
        | refine w0 ?_
        | (apply Y_neqF; exact rfl; exact rfl; first | assumption | omega)
        | (refine Y_call hb_awake awake_ok CoL_nil)
        | (refine Y_call hb_Few hF (CoL_d rfl CoL_nil))
        | (refine Y_call hb_own hO (CoL_d rfl CoL_nil))
        | (refine Y_call hb_own hO2 (CoL_d rfl CoL_nil))
        | (refine Y_call hb_Check hC (CoL_d rfl CoL_nil))
        | (refine Y_call hb_Canon hN (CoL_d rfl CoL_nil))
        | (refine Y_call hb_Vars hV (CoL_d rfl CoL_nil))
        | apply ay (hd := rfl)
        | (apply Y_move_d; exact rfl)
        | (apply Y_assign_d; exact rfl)
        | (apply Y_not; exact rfl)
        | (apply Y_pick_f; exact rfl; exact rfl)
        | (apply w1; exact rfl; exact rfl)
        | (apply awp_condF; exact rfl)
        | refine awp_block ?_
        | refine awp_skip ?_
      refine awp_loopF (α := Nat) (fun i => i ≤ v.length) (fun i => [(0, .d (nodes t)), (3, .d (nodes c)), (4, .d (nints v)), (5, .d (i64 (i : Int)))]) (fun _ => []) (fun i => v.length - i) 0 (Nat.zero_le _)
        (Fits_mk (Le_cons rfl (Le_cons rfl (Le_cons rfl (Le_cons rfl Le_nil)))) Pre_nil rfl rfl) ?_
      intro i hi
      repeat' first
        | refine en_n ?_
        | refine awp_seq ?_
        | refine awp_region ?_
        | refine alex_nil ?_
        | refine w0 ?_
        | (apply Y_eqlT; exact rfl; exact rfl; first | assumption | omega)
        | (refine Y_call hb_own hO2 (CoL_d rfl CoL_nil))
        | (refine Y_call hb_own hO (CoL_d rfl CoL_nil))
        | (refine Y_call hb_Canon hN2 (CoL_d rfl CoL_nil))
        | (refine Y_call hb_Same hS (CoL_d rfl (CoL_d rfl CoL_nil)))
        | (refine Y_call hb_Vars hV2 (CoL_d rfl CoL_nil))
        | (apply aI (hd := rfl); (first | exact Co_dd rfl | exact Co_bb rfl rfl rfl | exact Co_nn rfl); exact rfl; exact (by first | with_reducible exact es_binds | with_reducible exact es_nodes | with_reducible exact es_ints | with_reducible exact es_nodess | with_reducible exact es_toks | with_reducible exact es_strs | with_reducible exact es_u8s); exact fun _ => rfl; rotate_left; intro v hv; rotate_right)
        | apply ay (hd := rfl)
        | (apply Y_move_d; exact rfl)
        | (apply Y_assign_d; exact rfl)
        | (apply Y_load_r1; exact rfl; exact (by first | with_reducible exact tc_bind | with_reducible exact tc_m51 | with_reducible exact tc_m68 | with_reducible exact tc_pst | with_reducible exact tc_pf | with_reducible exact tcn_int | with_reducible exact tc_nodes | with_reducible exact tc_node | with_reducible exact tc_ints | with_reducible exact tcn_kind | with_reducible exact tcn_i64 | with_reducible exact tcn_str | with_reducible exact tcn_bool | with_reducible exact tc_str | with_reducible exact tc_int | with_reducible exact tc_kind | with_reducible exact tc_tok | with_reducible exact tc_u8s | with_reducible exact tc_toks | with_reducible exact tc_strs | with_reducible exact tc_bool | with_reducible exact tc_err | with_reducible exact tc_i64))
        | (apply Y_len_m; exact rfl; exact (by first | with_reducible exact et_binds | with_reducible exact et_nodes | with_reducible exact et_ints | with_reducible exact et_nodess | with_reducible exact et_toks | with_reducible exact et_strs | with_reducible exact et_u8s))
        | (apply Y_lss; exact rfl; exact rfl)
        | (apply Y_neq; exact rfl; exact rfl)
        | (apply Y_add; exact rfl; exact rfl)
        | (apply Y_pick_t; exact rfl; exact rfl)
        | (apply w1; exact rfl; exact rfl)
        | (apply awp_condD; exact rfl; (intro hb); rotate_left; (intro hb); rotate_right)
        | refine awp_block ?_
        | refine awp_skip ?_
        | refine awp_ret ?_
        | refine awp_exit ?_
        | refine en_r ?_
        | refine en_e ?_
        | refine eb_n ?_
        | refine eb_r ?_
        | refine eb_e ?_
        | refine rpost_ret ?_
        | (apply res1; exact rfl)
      all_goals try omega
      · exact absurd (hup _ _ hv) (by omega)
      · exact ⟨i + 1, by omega, by omega, Fits_mk (Le_cons rfl (Le_cons rfl (Le_cons rfl (Le_cons rfl Le_nil)))) Pre_nil rfl rfl⟩
      · rfl
    · refine pcall_of Tryd.func4 rfl Tryd.ntmps4 Tryd.results4 rfl ?_
      intro wb St0
      repeat' first
        | refine en_n ?_
        | refine awp_seq ?_
        | refine awp_region ?_
        | refine alex_nil ?_
        | refine w0 ?_
        | (apply Y_neqT; exact rfl; exact rfl; first | assumption | omega)
        | (refine Y_call hb_awake awake_ok CoL_nil)
        | (refine Y_call hb_Few hF (CoL_d rfl CoL_nil))
        | (refine Y_call hb_own hO (CoL_d rfl CoL_nil))
        | (refine Y_call hb_Check hC (CoL_d rfl CoL_nil))
        | apply ay (hd := rfl)
        | (apply Y_move_d; exact rfl)
        | (apply Y_assign_d; exact rfl)
        | (apply Y_not; exact rfl)
        | (apply Y_pick_f; exact rfl; exact rfl)
        | (apply w1; exact rfl; exact rfl)
        | (apply awp_condT; exact rfl)
        | refine awp_ret ?_
        | refine en_r ?_
        | refine rpost_ret ?_
        | (apply res1; exact rfl)
      all_goals rfl
  · have hf2 : fewT t = false := by cases h : fewT t with
      | false => rfl
      | true => exact absurd h hf
    rw [hf2] at hF
    refine pcall_of Tryd.func4 rfl Tryd.ntmps4 Tryd.results4 rfl ?_
    intro wb St0
    repeat' first
      | refine en_n ?_
      | refine awp_seq ?_
      | refine awp_region ?_
      | refine alex_nil ?_
      | refine w0 ?_
      | (apply k0u (hd := rfl); exact rfl; exact rfl)
      | (refine Y_call hb_awake awake_ok CoL_nil)
      | (refine Y_call hb_Few hF (CoL_d rfl CoL_nil))
      | apply ay (hd := rfl)
      | (apply Y_move_d; exact rfl)
      | (apply Y_assign_d; exact rfl)
      | (apply Y_not; exact rfl)
      | (apply Y_pick_t; exact rfl; exact rfl)
      | (apply Y_pick_f; exact rfl; exact rfl)
      | (apply w1; exact rfl; exact rfl)
      | (apply awp_condT; exact rfl)
      | refine awp_ret ?_
      | refine en_r ?_
      | refine rpost_ret ?_
      | (apply res1; exact rfl)
    all_goals rfl
end Go.Proofs.YtamhkcnpocdfcaaDoor
/- Nodes: what an argument reads as. -/
namespace Go.Proofs.YtamhkcnpocdfcaaDoor
open Go.ChangeShapes Go.WideShapes Go.ChangeAt Go.RowKit Go.Deep Go.Sx

/-- every cell that there is -/
def big (W : World) : Stab := fun b _ => b < W.heap.size

theorem cell_lt {W : World} {a : Addr} {u : Value} (h : W.cell? a = some u) : a.block < W.heap.size := by
  unfold World.cell? at h
  rcases Nat.lt_or_ge a.block W.heap.size with h1 | h1
  · exact h1
  · rw [Array.getElem?_eq_none h1] at h; cases h

theorem exists_list {α : Type} {Q : Nat → α → Prop} : ∀ n : Nat, (∀ i, i < n → ∃ x, Q i x) → ∃ L : List α, L.length = n ∧ ∀ i x, L[i]? = some x → Q i x
  | 0, _ => ⟨[], rfl, fun i x h => by simp at h⟩
  | n + 1, h => by
    obtain ⟨L, hl, hq⟩ := exists_list n (fun i hi => h i (by omega))
    obtain ⟨y, hy⟩ := h n (by omega)
    refine ⟨L ++ [y], by simp [hl], fun i x hx => ?_⟩
    rcases Nat.lt_or_ge i n with h1 | h1
    · rw [List.getElem?_append_left (by omega)] at hx; exact hq i x hx
    · rw [List.getElem?_append_right (by omega), hl] at hx
      rcases Nat.lt_or_ge n i with h2 | h2
      · rw [List.getElem?_eq_none (by simp; omega)] at hx; cases hx
      · have : i = n := by omega
        subst this; simp at hx; subst hx; exact hy

theorem rep_slice {W : World} {a : Addr} {len cap sz : Nat} {xs : List D} (hl : len = xs.length) (hc : len ≤ cap) (hm : cap ≤ maxLen) (hsz : ∀ x ∈ xs, x.flat.length = sz) (hp : 0 < sz)
    (h : ∀ (i : Nat) (d : D), xs[i]? = some d → ∀ (o : Nat) (c : D), d.flat[o]? = some c → ∃ u, W.cell? (a.add (i * sz + o)) = some u ∧ u.oneCell' = true ∧ RepD (big W) W u c) :
    RepD (big W) W (.slice (some a) len cap) (.slice xs) := by
  have hfl := flats_len hsz
  obtain ⟨us, hul, huq⟩ := exists_list (Q := fun j u => W.cell? (a.add j) = some u ∧ u.oneCell' = true ∧ ∀ c, (flats xs)[j]? = some c → RepD (big W) W u c) (xs.length * sz) (fun j hj => by
    have hi : j / sz < xs.length := by rw [Nat.div_lt_iff_lt_mul hp]; exact hj
    have ho : j % sz < sz := Nat.mod_lt _ hp
    have hjj : j / sz * sz + j % sz = j := by rw [Nat.mul_comm]; exact Nat.div_add_mod j sz
    have hd : xs[j / sz]? = some xs[j / sz] := List.getElem?_eq_getElem hi
    have hdl := hsz _ (List.getElem_mem hi)
    have hc' : (xs[j / sz]).flat[j % sz]? = some ((xs[j / sz]).flat[j % sz]'(by omega)) := List.getElem?_eq_getElem (by omega)
    obtain ⟨u, h1, h2, h3⟩ := h _ _ hd _ _ hc'
    refine ⟨u, by rw [← hjj]; exact h1, h2, fun c hcc => ?_⟩
    have h4 := flats_at hsz hd ho
    rw [hjj, hcc, hc'] at h4
    injection h4 with h4; rw [h4]; exact h3)
  refine .slice (some a) len cap sz xs us hl hc hm hsz (by rw [hul, hfl]) (fun u hu => ?_) (fun _ => ⟨a, rfl, fun j u hu => ⟨?_, (huq j u hu).1⟩⟩) (fun j u d hu hd => (huq j u hu).2.2 d hd)
  · obtain ⟨j, hj, rfl⟩ := List.getElem_of_mem hu
    exact (huq j _ (List.getElem?_eq_getElem hj)).2.1
  · have h1 := cell_lt (huq j u hu).1
    have h2 : (a.add j).block = a.block := by unfold Addr.add; split <;> rfl
    rw [h2] at h1; exact h1

theorem rep_nil {W : World} : RepD (big W) W (.slice none 0 0) (.slice []) :=
  .slice none 0 0 0 [] [] rfl (Nat.le_refl _) (Nat.zero_le _) (by simp) (by simp [flats]) (by simp) (fun h => absurd h (by simp)) (fun j u d h => by simp at h)

theorem fs37 : Tryd.prog.fieldsOf 39 = #[⟨"Kind", 37, 0, false, "", "", 0⟩, ⟨"Text", 9, 1, false, "", "", 8⟩, ⟨"Num", 2, 2, false, "", "", 24⟩, ⟨"Kids", 3, 3, false, "", "", 32⟩] := by kernel_rfl
theorem us_nodes : Tryd.prog.underlying 22 = some (.slice 39) := by kernel_rfl
theorem us_node : Tryd.prog.underlying 39 = some (.struct #[⟨"Kind", 37, 0, false, "", "", 0⟩, ⟨"Text", 9, 1, false, "", "", 8⟩, ⟨"Num", 2, 2, false, "", "", 24⟩, ⟨"Kids", 3, 3, false, "", "", 32⟩]) := by kernel_rfl
theorem us_kind : Tryd.prog.underlying 37 = some (.int .i64) := by kernel_rfl
theorem us_i64 : Tryd.prog.underlying 2 = some (.int .i64) := by kernel_rfl
theorem us_str : Tryd.prog.underlying 9 = some .string := by kernel_rfl
theorem co_node : Tryd.prog.cellsOf 39 = 4 := by kernel_rfl
theorem one_node : oneCellFields Tryd.prog #[⟨"Kind", 37, 0, false, "", "", 0⟩, ⟨"Text", 9, 1, false, "", "", 8⟩, ⟨"Num", 2, 2, false, "", "", 24⟩, ⟨"Kids", 3, 3, false, "", "", 32⟩] = true := by kernel_rfl

section
variable {H : Type} {enc : TypeId × Value → H} {P : Program} {w : World} {base : Nat} {spare : Nat → Bool} {held : Bool}
theorem open_fields {t e : TypeId} {fs : Array Field} {fuel : Nat} {cs : List Value} {x : DataW H × List MemPlace} (ht : P.underlying t = some (.slice e)) (he : P.underlying e = some (.struct fs))
    (hone : oneCellFields P fs = true) (hC : P.cellsOf e = fs.size) (h : DataW.trod enc P w base spare held fuel t cs = some x) :
    cs = [.slice none 0 0] ∨
    ∃ (a : Addr) (len cap : Nat), cs = [.slice (some a) len cap] ∧ len ≤ cap ∧ cap ≤ maxLen ∧
      ∀ i, i < len → ∃ n : Nat, ∀ (j : Nat) (f : Field), fs[j]? = some f → ∃ (v : Value) (y : DataW H × List MemPlace), w.cell? (a.add (i * fs.size + j)) = some v ∧ DataW.trod enc P w base spare held n f.type [v] = some y := by
  rcases open_slice ht h with h0 | ⟨a, len, cap, m, n, D, Pl, hcs, hb, hl, hm, hmm, hx, hi⟩
  · exact .inl h0.1
  · refine .inr ⟨a, len, cap, hcs, hl, hm, fun i him => ?_⟩
    obtain ⟨cs', hc, ht'⟩ := hi i (by rw [hmm]; split <;> omega)
    rw [hC] at hc
    obtain ⟨ys, n', hn', hy, hlen, hyl, hf⟩ := DataW.trod_struct he ht'
    obtain ⟨_, hcl, hat⟩ := World.cells?_some hc
    refine ⟨n', fun j f hj => ?_⟩
    obtain ⟨ho, hk⟩ := hone_of hone j f hj
    have hjl : j < fs.size := (Array.getElem?_eq_some_iff.1 hj).1
    have hcell := hat j hjl
    have hv : cs'[j]? = some (cs'[j]'(by omega)) := List.getElem?_eq_getElem (by omega)
    have h1 := hf j f hj
    rw [ho, hk] at h1
    have hone' : (cs'.drop j).take 1 = [cs'[j]'(by omega)] := by
      rw [List.drop_eq_getElem_cons (by omega)]
      rfl
    rw [hone'] at h1
    have hys : ys[j]? = some (ys[j]'(by omega)) := List.getElem?_eq_getElem (by omega)
    refine ⟨_, _, ?_, h1.trans hys⟩
    rw [← Go.Deep.add_add, hcell, hv]
end

set_option maxRecDepth 100000 in
theorem nodes_of {H : Type} {enc : TypeId × Value → H} {W : World} {fuel : Nat} {cs : List Value} {x : DataW H × List MemPlace} (h : DataW.trod enc Tryd.prog W 0 (fun _ => true) true fuel 22 cs = some x) :
    ∃ v L, cs = [v] ∧ v.oneCell' = true ∧ RepD (big W) W v (nodes L) := by
  rcases open_fields us_nodes us_node one_node co_node h with h0 | ⟨a, len, cap, hcs, hl, hm, hi⟩
  · exact ⟨_, [], h0, rfl, rep_nil⟩
  · obtain ⟨L, hL, hq⟩ := exists_list (Q := fun i (n : Nd) => ∀ (o : Nat) (u : Value), n.vals[o]? = some u → W.cell? (a.add (i * 4 + o)) = some u) len (fun i hil => by
      obtain ⟨n, hf⟩ := hi i hil
      obtain ⟨u0, y0, c0, t0⟩ := hf 0 _ rfl
      obtain ⟨u1, y1, c1, t1⟩ := hf 1 _ rfl
      obtain ⟨u2, y2, c2, t2⟩ := hf 2 _ rfl
      obtain ⟨u3, y3, c3, t3⟩ := hf 3 _ rfl
      obtain ⟨k, e0, _, _⟩ := DataW.trod_int us_kind t0
      obtain ⟨s, e1, _, _⟩ := DataW.trod_string us_str t1
      obtain ⟨m, e2, _, _⟩ := DataW.trod_int us_i64 t2
      obtain ⟨z, e3, _, _⟩ := DataW.trod_int ut_int t3
      injection e0 with e0; injection e1 with e1; injection e2 with e2; injection e3 with e3
      subst e0; subst e1; subst e2; subst e3
      refine ⟨⟨k, s.data.toList, m, z⟩, fun o u hu => ?_⟩
      match o, hu with
      | 0, hu => injection hu with hu; subst hu; exact c0
      | 1, hu => injection hu with hu; subst hu; exact c1
      | 2, hu => injection hu with hu; subst hu; exact c2
      | 3, hu => injection hu with hu; subst hu; exact c3
      | o + 4, hu => simp [Nd.vals] at hu)
    refine ⟨_, L, hcs, rfl, rep_slice (sz := 4) (by rw [List.length_map, hL]) hl hm (sz_map fun _ => rfl) (by decide) fun i d hd o c hc => ?_⟩
    rw [List.getElem?_map] at hd
    cases hn : L[i]? with
    | none => rw [hn] at hd; cases hd
    | some n =>
      rw [hn] at hd; injection hd with hd; subst hd
      have h1 := hq i n hn o
      match o, hc, h1 with
      | 0, hc, h1 => injection hc with hc; subst hc; exact ⟨_, h1 _ rfl, rfl, .val _⟩
      | 1, hc, h1 => injection hc with hc; subst hc; exact ⟨_, h1 _ rfl, rfl, .val _⟩
      | 2, hc, h1 => injection hc with hc; subst hc; exact ⟨_, h1 _ rfl, rfl, .val _⟩
      | 3, hc, h1 => injection hc with hc; subst hc; exact ⟨_, h1 _ rfl, rfl, .val _⟩
      | o + 4, hc, _ => exact absurd hc (by simp [Nd.av, D.flat])

set_option maxRecDepth 100000 in
theorem nodes_arg {H : Type} {enc : TypeId × Value → H} {W : World} {r : Reach} {b0 : Nat} {v : Value} {d : DataW H} {p : List MemPlace} (hv : Value.okWide Tryd.prog W r b0 22 v) (h : DataW.Trod enc Tryd.prog W 0 (fun _ => true) true 22 v d p) :
    ∃ L, RepD (big W) W v (nodes L) := by
  obtain ⟨a, len, cap, rfl⟩ := okWide_slice us_nodes hv
  obtain ⟨fuel, hf⟩ := h
  obtain ⟨v', L, hc, _, hr⟩ := nodes_of hf
  simp [Value.cells] at hc
  subst hc
  exact ⟨L, hr⟩
end Go.Proofs.YtamhkcnpocdfcaaDoor
/- The statements on types: what a row's condition gives: the tables in memory; the wrap. -/
namespace Go.Proofs.YtamhkcnpocdfcaaDoor
open Go.ChangeShapes Go.WideShapes Go.ChangeAt Go.RowKit Go.Deep Go.Sx

theorem Tryd.own : ownKnob Tryd.prog.godebug = none := by kernel_rfl
theorem Tryd.laidOut : laidOutB Tryd.prog = true := by kernel_rfl

section
variable {H : Type} {enc : TypeId × Value → H}
/-- the wrap: the listed variables and the world's shape are handed on -/
theorem wrap_laid {a : Assume} {C : Checked} {os : Os} {f : FuncId} {fn : Func} {s : ChangeSpec} {conds : List PathCond} {apart fresh handsOn again : Bool} {X : World → Array Value → Prop}
    (hX : ∀ (w w' : World) (args : Array Value), w.heap = w'.heap → X w args → X w' args)
    (own : ownKnob C.prog.godebug = none) (started : os.Started) (noInit : C.prog.inits.idxOf? f = none) (hfn : C.prog.funcs[f]? = some fn)
    (witness : ∃ (w : World) (tape : Tape) (i : Input), w.os = os ∧ (w.forCall tape i).Shaped C.prog ∧ i.vars = [] ∧ Input.okWide C.prog (w.forCall tape i) .any w.heap.size f i ∧
      ((s.pre enc C.prog fn conds apart (w.forCall tape i).memory i.args ∧ X (w.forCall tape i).memory i.args) ∧ sizedMet enc C.prog fn (OpenSpec.ofChange s) apart (w.forCall tape i).memory i.args) ∧ a.holds C.prog (lone (Frame.enter C.prog f i.args .normal) [] (w.forCall tape i)))
    (contract : ∀ (W : World) (base : Nat) (args : Array Value) (ds gs : List (DataW H)) (before : List MemPlace),
      (∀ (j : Nat) t v, fn.params[j]? = some t → args[j]? = some v → Value.okWide C.prog W .any base t v) →
      DataW.Whole enc C.prog fn.params.toList s.vars apart W args.toList ds gs before → X W args → W.ShapedOpen C.prog →
      Calls C.prog f args W fun e W' => ∃ v, e = .returned v ∧ s.post enc C.prog fn apart fresh handsOn again W args v W') :
    ReturnsInHanded a C os f .any (fun w args => (s.pre enc C.prog fn conds apart w args ∧ X w args) ∧ sizedMet enc C.prog fn (OpenSpec.ofChange s) apart w args) (s.post enc C.prog fn apart fresh handsOn again) := by
  refine returnsInHanded_of_calls own started noInit witness ?_
  intro w tape i _ hsh _ hok hpre _
  obtain ⟨_, _, _, fn', hfn', _, _, _, _, hval⟩ := hok
  have e : fn' = fn := Option.some.inj (hfn'.symm.trans hfn)
  subst e
  obtain ⟨⟨⟨ds, gs, before, hw, _⟩, hx⟩, _⟩ := hpre
  have hw' := DataW.Whole.of_heap (w' := w.forCall tape i) (by rfl) hw
  refine (contract (w.forCall tape i) w.heap.size i.args ds gs before hval hw' (hX _ _ _ (by rfl) hx) hsh).mono fun e W' ⟨v, he, hp⟩ => ?_
  subst he
  exact ChangeSpec.post_blind hp
end

theorem var_block {P : Program} {W : World} {n : String} {g : Nat} {cs : Array Value} (hg : P.globalNamed n = some g) (hv : W.var? P n = some cs) : ∃ e t, W.heap[g]? = some (.cells cs e t) := by
  simp only [World.var?, hg, Option.bind_some] at hv
  split at hv
  · rename_i h; injection hv with hv; subst hv; exact ⟨_, _, h⟩
  · cases hv

def theLaid : List (String × DataW Unit) := Rows.typSameRow.laid

theorem glob_of {W : World} (hsh : W.ShapedOpen Tryd.prog) (hL : laidMetH Tryd.prog theLaid W) : Glob (big W) W := by
  rw [MakeChecks.laidMetH_plain _ _ _ (by kernel_rfl)] at hL
  have h2 := laidMet.tail (laidMet.tail hL)
  have e2 : (Rows.laid_internal_strconv_uint64pow10 : DataW Unit) = Lib.tabData .u64 Lib.pow10Tab := by kernel_rfl
  rw [e2] at h2
  have ht := Lib.tabIs_of_head (g := 0) (t := 124) (e := 95) (n := 20) (by kernel_rfl) (by kernel_rfl) (by kernel_rfl) (by kernel_rfl) (by kernel_rfl) (by kernel_rfl) h2
  have h5 := laidMet.tail (laidMet.tail h2)
  have e5 : (Rows.laid_strings_asciiSpace : DataW Unit) = Lib.tabData .u8 Lib.asciiSpaceTab := by kernel_rfl
  rw [e5] at h5
  have hs := Lib.tabIs_of_head (g := 1) (t := 126) (e := 5) (n := 256) (by kernel_rfl) (by kernel_rfl) (by kernel_rfl) (by kernel_rfl) (by kernel_rfl) (by kernel_rfl) h5
  obtain ⟨cs8, hh8, _, _⟩ := hsh.1 6 #[.pointer none] 133 (of_decide_eq_true (by kernel_rfl)) (by kernel_rfl)
  have hsz : 6 < W.heap.size := (Array.getElem?_eq_some_iff.1 hh8).1
  obtain ⟨m, hm⟩ := cell_of_shapedOpen_int (P := Tryd.prog) (g := 3) (t := 3) (zero := #[.int .i64 0]) hsh (of_decide_eq_true (by kernel_rfl)) (by kernel_rfl) rfl (by kernel_rfl) (by kernel_rfl) uint
  obtain ⟨cs0, hh, hc0, _⟩ := hsh.1 3 #[.int .i64 0] 3 (of_decide_eq_true (by kernel_rfl)) (by kernel_rfl)
  have hc : cs0 = #[.int .i64 m] := by
    obtain ⟨l⟩ := cs0
    match l, hc0 with
    | [c], _ =>
      simp [World.cell?, hh] at hm
      rw [hm]
  subst hc
  exact ⟨fun k hk o => Nat.lt_of_lt_of_le hk hsz, ⟨m, _, _, hh⟩, var_block (by kernel_rfl) ht, var_block (by kernel_rfl) hs⟩

end Go.Proofs.YtamhkcnpocdfcaaDoor
