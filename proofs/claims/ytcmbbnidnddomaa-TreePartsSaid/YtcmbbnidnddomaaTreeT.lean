/- The tree statements: the law on parts. -/
import Derived.Test.YtcmbbnidnddomaaTreeK
import Derived.Test.YtcmbbnidnddomaaTreeQ
namespace Go.Proofs.Ytcmbbnidnddomaa
open Go.Sx Go.RowKit
attribute [local irreducible] Ylds astep alex alexE alexD awp PCall FCall RCall athen ablock ajump rpost fpost

theorem FD.le {l : List Nd} {j d : Nat} (h : FD l j d) : d ≤ l.length := by
  induction h with
  | nil => exact Nat.le_refl _
  | cons x ks r n j d e hx h1 h2 ih1 ih2 => simp only [List.length_cons, List.length_append]; omega
theorem deep_bd {K : List Nd} (hw : wholeF K = true) : 0 ≤ deepF K ∧ deepF K ≤ K.length := by
  obtain ⟨d, hd⟩ := FD_of K.length (Nat.le_refl _) ((whole_cns K).1 hw)
  rw [List.take_length] at hd
  have := hd.le
  rw [deep_whole hw hd]; omega

theorem part_facts {L : List Nd} {n k : Nat} {x : Nd} {KK : List (List Nd)} {R : List Nd} (hc : cns (L.drop n) 1 = some k) (hN : Node L n x KK R) (hk : k = KK.flatten.length + 1) : subE L (n : Int) = 0 ∧ makeF x KK = subF L (n : Int) ∧ deepF (subF L (n : Int)) = mxF KK + 1 ∧ n < L.length ∧ KK.flatten.length + 1 + n ≤ L.length := by
  have he := endF_of hc
  have hle := cns_le hc
  rw [List.length_drop] at hle
  have hT : subF L (n : Int) = x :: KK.flatten := by rw [subF_of hc, hk, hN.drop, List.take_succ_cons, List.take_left]
  have h1 := cns_open hc
  refine ⟨by rw [subE, if_neg (by omega)], ?_, (deep_make hT hN.kids (fun K hK => (whole_cns K).2 (hN.whole K hK))).1, by omega, by omega⟩
  rw [hT, makeF, ← hN.kids]

set_option maxHeartbeats 4000000 in
theorem Parts_ok (L : List Nd) (at_ : Int) : PCall Try.prog 8 [nodes L, i64 at_] (bl true) := by
  refine pcall_of Try.func8 rfl Try.ntmps8 Try.results8 rfl ?_
  intro wb St0
  have hbd := endF_bd L at_
  have hsl := sub_len L at_
  repeat' first
    | refine en_n ?_
    | refine awp_seq ?_
    | refine awp_region ?_
    | refine alex_nil ?_
    | refine w0 ?_
    | (refine Y_call hb_awake awake_ok CoL_nil)
    | (refine Y_call hb_own (own_ok _ (by omega)) (CoL_d rfl CoL_nil))
    | (refine Y_call hb_End (End_ok L _ (by omega)) (CoL_d rfl (CoL_d rfl CoL_nil)))
    | (refine Y_call hb_Kids (Kids_ok L _ (by omega)) (CoL_d rfl (CoL_d rfl CoL_nil)))
    | (apply aLit0 (hd := rfl) (hro := rfl); exact ety_nodess; exact es_nodess; exact zs_nodes; exact rfl)
    | (apply aJ (hd := rfl); (first | exact Co_dd rfl | exact Co_bb rfl rfl rfl | exact Co_nn rfl); exact rfl; exact (by first | exact es_nodes | exact es_ints | exact es_nodess); assumption; omega; exact fun _ => rfl)
    | (apply aI (hd := rfl); (first | exact Co_dd rfl | exact Co_bb rfl rfl rfl | exact Co_nn rfl); exact rfl; exact (by first | exact es_nodes | exact es_ints | exact es_nodess); exact fun _ => rfl; rotate_left; intro v hv; rotate_right)
    | (apply aApp (hd := rfl) (hro := rfl); exact rfl; exact rfl; (first | exact Co_dd rfl | exact Co_bb rfl rfl rfl | exact Co_nn rfl); (first | exact rfl | (simp; done)); exact rfl; exact (by first | exact ety_nodes | exact ety_ints | exact ety_nodess); exact (by first | exact es_nodes | exact es_ints | exact es_nodess); exact (by first | exact zl_node | exact zl_int | exact zl_nodes); exact (by first | exact by_nodes | exact by_ints | exact by_nodess); (first | exact sz_map (fun _ => rfl) | exact sz_lit rfl))
    | (apply aBox (hd := rfl) (hro := rfl); exact rfl; exact rfl)
    | (apply aAlloc (hd := rfl) (hro := rfl); exact (by first | exact zo_node | exact zo_int))
    | apply ay (hd := rfl)
    | (apply Y_move_d; exact rfl)
    | (apply Y_assign_d; exact rfl)
    | (apply Y_field_r; exact rfl; exact (by first | exact fo_0 | exact fo_1 | exact fo_2 | exact fo_3))
    | (apply Y_load_r1; exact rfl; exact (by first | exact tc_int | exact tc_nodes | exact tc_node | exact tc_ints | exact tc_kind | exact tc_i64 | exact tc_str | exact tc_bool))
    | (apply Y_load_r; exact rfl; exact (by first | exact tc_int | exact tc_nodes | exact tc_node | exact tc_ints | exact tc_kind | exact tc_i64 | exact tc_str | exact tc_bool); exact rfl)
    | (apply Y_len_m; exact rfl; exact (by first | exact et_nodes | exact et_ints | exact et_nodess))
    | (apply Y_len_d; exact rfl; exact (by first | exact et_nodes | exact et_ints | exact et_nodess))
    | (apply Y_lss; exact rfl; exact rfl)
    | (apply Y_leq; exact rfl; exact rfl)
    | (apply Y_gtr; exact rfl; exact rfl)
    | (apply Y_geq; exact rfl; exact rfl)
    | (apply Y_eql; exact rfl; exact rfl)
    | (apply Y_neq; exact rfl; exact rfl)
    | (apply Y_add; exact rfl; exact rfl)
    | (apply Y_sub; exact rfl; exact rfl)
    | (apply Y_mul; exact rfl; exact rfl)
    | (apply Y_not; exact rfl)
    | (apply Y_pick_t; exact rfl; exact rfl)
    | (apply Y_pick_f; exact rfl; exact rfl)
    | (apply Y_extract; exact rfl; exact rfl)
    | (apply Y_max; exact rfl; exact rfl)
    | (apply Y_move_nil; exact rfl)
    | (apply Y_assign_nil; exact rfl)
    | (apply Y_move_buf; exact rfl)
    | (apply Y_assign_buf; exact rfl)
    | (apply Y_len_buf; exact rfl; exact (by first | exact et_nodes | exact et_ints | exact et_nodess))
    | (apply Y_len_nil; exact rfl; exact (by first | exact et_nodes | exact et_ints | exact et_nodess))
    | (apply Y_move_ptr; exact rfl)
    | (apply Y_assign_ptr; exact rfl)
    | (apply Y_move_clo; exact rfl)
    | (apply Y_assign_clo; exact rfl)
    | (apply Y_field_p; exact rfl; exact (by first | exact fo_0 | exact fo_1 | exact fo_2 | exact fo_3))
    | (apply Y_load_p; exact rfl; exact (by first | exact tc_int | exact tc_nodes | exact tc_node | exact tc_ints | exact tc_kind | exact tc_i64 | exact tc_str | exact tc_bool); exact rfl; exact rfl)
    | (apply Y_load_pa; exact rfl; exact (by first | exact tc_int | exact tc_nodes | exact tc_node | exact tc_ints | exact tc_kind | exact tc_i64 | exact tc_str | exact tc_bool); exact rfl; exact rfl; exact rfl)
    | (apply Y_sl; (first | exact Co_dd rfl | exact Co_bb rfl rfl rfl | exact Co_nn rfl); exact (by first | exact es_nodes | exact es_ints | exact es_nodess); exact rfl; exact rfl; exact fun _ => rfl)
    | (apply Y_sl_l; (first | exact Co_dd rfl | exact Co_bb rfl rfl rfl | exact Co_nn rfl); exact (by first | exact es_nodes | exact es_ints | exact es_nodess); exact rfl; exact fun _ => rfl)
    | (apply Y_sl_h; (first | exact Co_dd rfl | exact Co_bb rfl rfl rfl | exact Co_nn rfl); exact (by first | exact es_nodes | exact es_ints | exact es_nodess); exact rfl; exact fun _ => rfl)
    | (apply Y_lit0; exact (by first | exact ety_nodes | exact ety_ints | exact ety_nodess); exact (by first | exact es_nodes | exact es_ints | exact es_nodess); exact (by first | exact zs_node | exact zs_int | exact zs_nodes); exact rfl)
    | (apply Y_lit1; exact (by first | exact ety_nodes | exact ety_ints | exact ety_nodess); exact (by first | exact es_nodes | exact es_ints | exact es_nodess); exact (by first | exact zs_node | exact zs_int | exact zs_nodes); exact rfl; exact rfl; (first | exact CoL_d rfl CoL_nil | exact CoL_b rfl rfl rfl CoL_nil | exact CoL_n rfl CoL_nil); exact rfl)
    | (apply Y_lit2; exact (by first | exact ety_nodes | exact ety_ints | exact ety_nodess); exact (by first | exact es_nodes | exact es_ints | exact es_nodess); exact (by first | exact zs_node | exact zs_int | exact zs_nodes); exact rfl; exact rfl; (first | exact CoL_d rfl (CoL_d rfl CoL_nil) | exact CoL_b rfl rfl rfl (CoL_b rfl rfl rfl CoL_nil)); exact rfl)
    | (apply Y_lit3; exact (by first | exact ety_nodes | exact ety_ints | exact ety_nodess); exact (by first | exact es_nodes | exact es_ints | exact es_nodess); exact (by first | exact zs_node | exact zs_int | exact zs_nodes); exact rfl; exact rfl; (exact CoL_d rfl (CoL_d rfl (CoL_d rfl CoL_nil))); exact rfl)
    | (apply Y_lit4; exact (by first | exact ety_nodes | exact ety_ints | exact ety_nodess); exact (by first | exact es_nodes | exact es_ints | exact es_nodess); exact (by first | exact zs_node | exact zs_int | exact zs_nodes); exact rfl; exact rfl; (exact CoL_d rfl (CoL_d rfl (CoL_d rfl (CoL_d rfl CoL_nil)))); exact rfl)
    | (apply Y_mkf; exact rfl)
    | (apply w1; exact rfl; exact rfl)
    | (apply k1 (hd := rfl); exact rfl; exact rfl)
    | (apply k0 (hd := rfl); exact rfl; exact rfl)
    | (apply gD; exact rfl; exact rfl; (intro hb); rotate_left; (intro hb); rotate_right)
    | (apply gN; exact rfl; exact rfl; (intro hb); rotate_left; (intro hb); rotate_right)
    | (apply g1; exact rfl; exact rfl; (intro hb); rotate_left; (intro hb); rotate_right)
    | (refine w0' ?_)
    | (apply aStore; exact rfl; exact rfl; exact rfl; exact (by first | exact tc_int | exact tc_nodes | exact tc_node | exact tc_ints | exact tc_kind | exact tc_i64 | exact tc_str | exact tc_bool); exact rfl; exact rfl; exact rfl; exact rfl)
    | (apply awp_condD; exact rfl; (intro hb); rotate_left; (intro hb); rotate_right)
    | (apply awp_condN; exact rfl; (intro hb); rotate_left; (intro hb); rotate_right)
    | (apply awp_condT; exact rfl)
    | (apply awp_condF; exact rfl)
    | (apply awp_cond; exact rfl; (intro hb); rotate_left; (intro hb); rotate_right)
    | refine awp_block ?_
    | refine awp_skip ?_
    | refine awp_ret ?_
    | refine awp_exit ?_
    | refine awp_label ?_
    | refine awp_goto ?_
    | refine awp_draw (by kernel_rfl) (by kernel_rfl) ?_
    | refine en_r ?_
    | refine en_e ?_
    | refine eb_n ?_
    | refine eb_r ?_
    | refine eb_e ?_
    | refine eb_o rfl ?_
    | refine en_g ?_
    | refine eb_g ?_
    | refine ej_n ?_
    | refine ej_r ?_
    | refine ej_e ?_
    | refine ej_g ?_
    | refine rpost_ret ?_
    | (apply res1; exact rfl)
    | (apply res1n; exact rfl)
    | (apply res1b; exact rfl; exact rfl; (first | exact rfl | (simp; done)))
    | (apply res2; exact rfl; exact rfl)
    | (apply res2n; exact rfl; exact rfl)
    | (apply res2b; exact rfl; exact rfl; (first | exact rfl | (simp; done)); exact rfl)
    | exact CoL_nil
    | refine CoL_d rfl ?_
    | refine CoL_b rfl rfl rfl ?_
    | refine CoL_n rfl ?_
    | refine CoL_v rfl ?_
  · rfl
  · rfl
  · rename_i hlen
    obtain ⟨n, k, rfl, hc, he⟩ := endF_some hb
    obtain ⟨x, KK, R, hN, hk⟩ := node_of hc
    have hkf := hN.kidsEq
    have hKl : KK.length ≤ 1000000 := by have := kidsF_len (L := L) (a := (n : Int)) (by omega); rw [hkf, starts_len] at this; exact this
    refine awp_loopF (α := Nat) (fun i => i ≤ KK.length ∧ 0 ≤ mxF (KK.take i) ∧ mxF (KK.take i) ≤ 2000000) (fun i => [(0, .d (nodes L)), (1, .d (i64 (n : Int))), (5, .d (ints (kidsF L (n : Int)))), (6, .buf 0 ((KK.take i).map nodes).length), (7, .d (i64 (mxF (KK.take i)))), (8, .d (i64 (i : Int)))]) (fun i => [.buf false 22 1 ((KK.take i).map nodes)]) (fun i => KK.length - i) 0 ⟨Nat.zero_le _, Int.le_refl 0, by simp [mxF]⟩
      (Fits_mk (Le_cons rfl (Le_cons rfl (Le_cons rfl (Le_cons rfl (Le_cons rfl (Le_cons rfl Le_nil)))))) (Pre_cons rfl rfl Pre_nil) rfl rfl) ?_
    rintro i ⟨hi, hm0, hm1⟩
    have hgo : ∀ v, (kidsF L (n : Int))[i]? = some v → ∃ K, KK[i]? = some K ∧ subF L v = K ∧ subE L v = 0 ∧ 0 ≤ deepF K ∧ deepF K ≤ 2000000 := by
      intro v hv
      rw [hkf] at hv
      have hil : i < KK.length := by have := (List.getElem?_eq_some_iff.1 hv).1; rw [starts_len] at this; exact this
      rw [starts_get hil] at hv
      injection hv with hv
      have hK : KK[i]? = some KK[i] := List.getElem?_eq_getElem hil
      obtain ⟨s1, s2, _⟩ := kid_sub hN.next hN.whole hK
      rw [show ((n + 1 : Nat) : Int) = (n : Int) + 1 by omega] at s1 s2
      rw [hv] at s1 s2
      obtain ⟨d1, d2⟩ := deep_bd ((whole_cns _).2 (hN.whole _ (List.getElem_mem hil)))
      have hsub := sub_len L v
      rw [s1] at hsub
      exact ⟨KK[i], hK, s1, by rw [subE, if_neg (by omega)], d1, by omega⟩
    have hkn : (kidsF L (n : Int)).length = KK.length := by rw [hkf, starts_len]
    repeat' first
      | refine en_n ?_
      | refine awp_seq ?_
      | refine awp_region ?_
      | refine alex_nil ?_
      | refine w0 ?_
      | (refine Y_call hb_own (own_ok _ (by first
      | omega
      | (have := sub_len L v; omega))) (CoL_d rfl CoL_nil))
      | (refine Y_call hb_Make (Make_ok v (KK.take i) ?_ ?_) (CoL_d rfl (CoL_b rfl rfl rfl CoL_nil)))
      | (refine Y_call hb_Same (Same_ok _ _ ?_) (CoL_d rfl (CoL_d rfl CoL_nil)))
      | (refine Y_call hb_Sub (Sub_ok L _ (by omega)) (CoL_d rfl (CoL_d rfl CoL_nil)))
      | (refine Y_call hb_Deep (Deep_ok _ (by first
      | omega
      | (have := sub_len L v; omega))) (CoL_d rfl CoL_nil))
      | (apply aJ (hd := rfl); (first | exact Co_dd rfl | exact Co_bb rfl rfl rfl | exact Co_nn rfl); exact rfl; exact (by first | exact es_nodes | exact es_ints | exact es_nodess); assumption; omega; exact fun _ => rfl)
      | (apply aI (hd := rfl); (first | exact Co_dd rfl | exact Co_bb rfl rfl rfl | exact Co_nn rfl); exact rfl; exact (by first | exact es_nodes | exact es_ints | exact es_nodess); exact fun _ => rfl; rotate_left; intro v hv; rotate_right)
      | (apply aApp (hd := rfl) (hro := rfl); exact rfl; exact rfl; (first | exact Co_dd rfl | exact Co_bb rfl rfl rfl | exact Co_nn rfl); (first | exact rfl | (simp; done)); exact rfl; exact (by first | exact ety_nodes | exact ety_ints | exact ety_nodess); exact (by first | exact es_nodes | exact es_ints | exact es_nodess); exact (by first | exact zl_node | exact zl_int | exact zl_nodes); exact (by first | exact by_nodes | exact by_ints | exact by_nodess); (first | exact sz_map (fun _ => rfl) | exact sz_lit rfl))
      | (apply aBox (hd := rfl) (hro := rfl); exact rfl; exact rfl)
      | (apply aAlloc (hd := rfl) (hro := rfl); exact (by first | exact zo_node | exact zo_int))
      | apply ay (hd := rfl)
      | (apply Y_move_d; exact rfl)
      | (apply Y_assign_d; exact rfl)
      | (apply Y_field_r; exact rfl; exact (by first | exact fo_0 | exact fo_1 | exact fo_2 | exact fo_3))
      | (apply Y_load_r1; exact rfl; exact (by first | exact tc_int | exact tc_nodes | exact tc_node | exact tc_ints | exact tc_kind | exact tc_i64 | exact tc_str | exact tc_bool))
      | (apply Y_load_r; exact rfl; exact (by first | exact tc_int | exact tc_nodes | exact tc_node | exact tc_ints | exact tc_kind | exact tc_i64 | exact tc_str | exact tc_bool); exact rfl)
      | (apply Y_len_m; exact rfl; exact (by first | exact et_nodes | exact et_ints | exact et_nodess))
      | (apply Y_len_d; exact rfl; exact (by first | exact et_nodes | exact et_ints | exact et_nodess))
      | (apply Y_lss; exact rfl; exact rfl)
      | (apply Y_leq; exact rfl; exact rfl)
      | (apply Y_gtr; exact rfl; exact rfl)
      | (apply Y_geq; exact rfl; exact rfl)
      | (apply Y_eql; exact rfl; exact rfl)
      | (apply Y_neq; exact rfl; exact rfl)
      | (apply Y_add; exact rfl; exact rfl)
      | (apply Y_sub; exact rfl; exact rfl)
      | (apply Y_mul; exact rfl; exact rfl)
      | (apply Y_not; exact rfl)
      | (apply Y_pick_t; exact rfl; exact rfl)
      | (apply Y_pick_f; exact rfl; exact rfl)
      | (apply Y_extract; exact rfl; exact rfl)
      | (apply Y_max; exact rfl; exact rfl)
      | (apply Y_move_nil; exact rfl)
      | (apply Y_assign_nil; exact rfl)
      | (apply Y_move_buf; exact rfl)
      | (apply Y_assign_buf; exact rfl)
      | (apply Y_len_buf; exact rfl; exact (by first | exact et_nodes | exact et_ints | exact et_nodess))
      | (apply Y_len_nil; exact rfl; exact (by first | exact et_nodes | exact et_ints | exact et_nodess))
      | (apply Y_move_ptr; exact rfl)
      | (apply Y_assign_ptr; exact rfl)
      | (apply Y_move_clo; exact rfl)
      | (apply Y_assign_clo; exact rfl)
      | (apply Y_field_p; exact rfl; exact (by first | exact fo_0 | exact fo_1 | exact fo_2 | exact fo_3))
      | (apply Y_load_p; exact rfl; exact (by first | exact tc_int | exact tc_nodes | exact tc_node | exact tc_ints | exact tc_kind | exact tc_i64 | exact tc_str | exact tc_bool); exact rfl; exact rfl)
      | (apply Y_load_pa; exact rfl; exact (by first | exact tc_int | exact tc_nodes | exact tc_node | exact tc_ints | exact tc_kind | exact tc_i64 | exact tc_str | exact tc_bool); exact rfl; exact rfl; exact rfl)
      | (apply Y_sl; (first | exact Co_dd rfl | exact Co_bb rfl rfl rfl | exact Co_nn rfl); exact (by first | exact es_nodes | exact es_ints | exact es_nodess); exact rfl; exact rfl; exact fun _ => rfl)
      | (apply Y_sl_l; (first | exact Co_dd rfl | exact Co_bb rfl rfl rfl | exact Co_nn rfl); exact (by first | exact es_nodes | exact es_ints | exact es_nodess); exact rfl; exact fun _ => rfl)
      | (apply Y_sl_h; (first | exact Co_dd rfl | exact Co_bb rfl rfl rfl | exact Co_nn rfl); exact (by first | exact es_nodes | exact es_ints | exact es_nodess); exact rfl; exact fun _ => rfl)
      | (apply Y_lit0; exact (by first | exact ety_nodes | exact ety_ints | exact ety_nodess); exact (by first | exact es_nodes | exact es_ints | exact es_nodess); exact (by first | exact zs_node | exact zs_int | exact zs_nodes); exact rfl)
      | (apply Y_lit1; exact (by first | exact ety_nodes | exact ety_ints | exact ety_nodess); exact (by first | exact es_nodes | exact es_ints | exact es_nodess); exact (by first | exact zs_node | exact zs_int | exact zs_nodes); exact rfl; exact rfl; (first | exact CoL_d rfl CoL_nil | exact CoL_b rfl rfl rfl CoL_nil | exact CoL_n rfl CoL_nil); exact rfl)
      | (apply Y_lit2; exact (by first | exact ety_nodes | exact ety_ints | exact ety_nodess); exact (by first | exact es_nodes | exact es_ints | exact es_nodess); exact (by first | exact zs_node | exact zs_int | exact zs_nodes); exact rfl; exact rfl; (first | exact CoL_d rfl (CoL_d rfl CoL_nil) | exact CoL_b rfl rfl rfl (CoL_b rfl rfl rfl CoL_nil)); exact rfl)
      | (apply Y_lit3; exact (by first | exact ety_nodes | exact ety_ints | exact ety_nodess); exact (by first | exact es_nodes | exact es_ints | exact es_nodess); exact (by first | exact zs_node | exact zs_int | exact zs_nodes); exact rfl; exact rfl; (exact CoL_d rfl (CoL_d rfl (CoL_d rfl CoL_nil))); exact rfl)
      | (apply Y_lit4; exact (by first | exact ety_nodes | exact ety_ints | exact ety_nodess); exact (by first | exact es_nodes | exact es_ints | exact es_nodess); exact (by first | exact zs_node | exact zs_int | exact zs_nodes); exact rfl; exact rfl; (exact CoL_d rfl (CoL_d rfl (CoL_d rfl (CoL_d rfl CoL_nil)))); exact rfl)
      | (apply Y_mkf; exact rfl)
      | (apply w1; exact rfl; exact rfl)
      | (apply k1 (hd := rfl); exact rfl; exact rfl)
      | (apply k0 (hd := rfl); exact rfl; exact rfl)
      | (apply gD; exact rfl; exact rfl; (intro hb); rotate_left; (intro hb); rotate_right)
      | (apply gN; exact rfl; exact rfl; (intro hb); rotate_left; (intro hb); rotate_right)
      | (apply g1; exact rfl; exact rfl; (intro hb); rotate_left; (intro hb); rotate_right)
      | (refine w0' ?_)
      | (apply aStore; exact rfl; exact rfl; exact rfl; exact (by first | exact tc_int | exact tc_nodes | exact tc_node | exact tc_ints | exact tc_kind | exact tc_i64 | exact tc_str | exact tc_bool); exact rfl; exact rfl; exact rfl; exact rfl)
      | (apply awp_condD; exact rfl; (intro hb); rotate_left; (intro hb); rotate_right)
      | (apply awp_condN; exact rfl; (intro hb); rotate_left; (intro hb); rotate_right)
      | (apply awp_condT; exact rfl)
      | (apply awp_condF; exact rfl)
      | (apply awp_cond; exact rfl; (intro hb); rotate_left; (intro hb); rotate_right)
      | refine awp_block ?_
      | refine awp_skip ?_
      | refine awp_ret ?_
      | refine awp_exit ?_
      | refine awp_label ?_
      | refine awp_goto ?_
      | refine awp_draw (by kernel_rfl) (by kernel_rfl) ?_
      | refine en_r ?_
      | refine en_e ?_
      | refine eb_n ?_
      | refine eb_r ?_
      | refine eb_e ?_
      | refine eb_o rfl ?_
      | refine en_g ?_
      | refine eb_g ?_
      | refine ej_n ?_
      | refine ej_r ?_
      | refine ej_e ?_
      | refine ej_g ?_
      | refine rpost_ret ?_
      | (apply res1; exact rfl)
      | (apply res1n; exact rfl)
      | (apply res1b; exact rfl; exact rfl; (first | exact rfl | (simp; done)))
      | (apply res2; exact rfl; exact rfl)
      | (apply res2n; exact rfl; exact rfl)
      | (apply res2b; exact rfl; exact rfl; (first | exact rfl | (simp; done)); exact rfl)
      | exact CoL_nil
      | refine CoL_d rfl ?_
      | refine CoL_b rfl rfl rfl ?_
      | refine CoL_n rfl ?_
      | refine CoL_v rfl ?_
    · omega
    · obtain ⟨K, _, _, h3, _⟩ := hgo v hv; exact absurd h3 hb
    · simp only [List.length_map, List.length_take, List.length_singleton]; omega
    · omega
    · obtain ⟨K, hK, hs, _, hd0, hd1⟩ := hgo v hv
      have hmx : mxF (KK.take (i + 1)) = max (mxF (KK.take i)) (deepF K) := foldl_snoc (fun m K => max m (deepF K)) 0 hK
      have hrow : (KK.take (i + 1)).map nodes = (KK.take i).map nodes ++ [nodes K] := by rw [List.take_add_one, hK, List.map_append]; rfl
      refine ⟨i + 1, ⟨by omega, by rw [hmx]; omega, by rw [hmx]; omega⟩, by omega, Fits_mk (Le_cons rfl (Le_cons rfl (Le_cons rfl (Le_buf rfl ?_ (Le_d rfl ?_ (Le_cons rfl Le_nil)))))) (Pre_buf rfl rfl ?_ Pre_nil) rfl rfl⟩
      · rw [hrow, List.length_append]; rfl
      · rw [hmx, hs]
      · rw [hrow, hs]
    all_goals have hiK : i = KK.length := by omega
    all_goals obtain ⟨p1, p2, p3, p4, p5⟩ := part_facts hc hN hk
    all_goals have hmk : ∀ v, L[n]? = some v → makeF v (KK.take i) = subF L (n : Int) := fun v hv => (by rw [hN.at] at hv; injection hv with hv; subst hv; rw [hiK, List.take_length]; exact p2)
    all_goals have hfl := flI_len KK i
    all_goals unfold flI at hfl
    all_goals first
      | omega
      | (rw [List.length_take]; omega)
      | (simp only [makeF, List.length_cons]; omega)
      | exact absurd (hmk v hv) hb
      | exact absurd p1 hb
      | (rw [p3, hiK, List.take_length, decide_eq_true rfl]; done)
      | trace_state
end Go.Proofs.Ytcmbbnidnddomaa
