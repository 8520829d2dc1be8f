/- The tree statements: the law on puts. -/
import Derived.Test.YtcmbbnidnddomaaTreeK
import Derived.Test.YtcmbbnidnddomaaTreeN
namespace Go.Proofs.Ytcmbbnidnddomaa
open Go.Sx Go.RowKit
attribute [local irreducible] Ylds astep alex alexE alexD awp PCall FCall RCall athen ablock ajump rpost fpost

theorem putF_len (L B : List Nd) (a : Int) : (putF L a B).length ≤ L.length + B.length + L.length := by
  unfold putF; split
  · exact Nat.zero_le _
  · simp only [List.length_append, List.length_take, List.length_drop]; omega

theorem put_bad {L : List Nd} {a : Int} (B : List Nd) (h : endF L a < 0 ∨ wholeF B = false) : putF L a B = [] ∧ putE L a B = 20 := by
  rw [putF, putE, if_pos h, if_pos h]; exact ⟨rfl, rfl⟩

set_option maxHeartbeats 4000000 in
theorem Puts_ok (L : List Nd) (at_ : Int) (B : List Nd) : PCall Try.prog 5 [nodes L, i64 at_, nodes B] (bl true) := by
  refine pcall_of Try.func5 rfl Try.ntmps5 Try.results5 rfl ?_
  intro wb St0
  have hpl := putF_len L B at_
  have hsl := sub_len L at_
  have hps := sub_len (putF L at_ B) at_
  have hpp := putF_len L (subF L at_) at_
  have hgood : ¬ endF L at_ < 0 → (!wholeF B) = false → putE L at_ B = 0 ∧ subF (putF L at_ B) at_ = B ∧ subE (putF L at_ B) at_ = 0 ∧ (putF L at_ B).take at_.toNat = L.take at_.toNat ∧ (putF L at_ B).drop (at_ + B.length).toNat = L.drop (endF L at_).toNat ∧ wholeF (putF L at_ B) = wholeF L ∧
      putE L at_ (subF L at_) = 0 ∧ putF L at_ (subF L at_) = L ∧ 0 ≤ at_ ∧ at_ ≤ L.length ∧ at_ ≤ (putF L at_ B).length ∧ at_ + B.length ≤ (putF L at_ B).length ∧ 0 ≤ endF L at_ ∧ endF L at_ ≤ L.length := by
    intro h1 h2
    have h2 : wholeF B = true := by simpa using h2
    obtain ⟨n, k, rfl, hc, he⟩ := endF_some h1
    have h3 := put_ok hc h2
    rw [← h3.put] at h3
    obtain ⟨h4, h5⟩ := put_same hc
    have hlen := h3.len
    have hnl := h3.n_le
    have hok := h3.ok
    refine ⟨?_, h3.sub, ?_, ?_, ?_, h3.whole, ?_, h4, by omega, by omega, by omega, by omega, by omega, by omega⟩
    · rw [putE, if_neg (by rintro (h | h); exact h1 h; rw [h2] at h; cases h)]
    · rw [subE, if_neg (by omega)]
    · rw [Int.toNat_natCast]; exact h3.lo
    · rw [he, show ((n : Int) + (B.length : Nat)).toNat = n + B.length by omega, show ((n : Int) + (k : Nat)).toNat = n + k by omega]; exact h3.hi
    · rw [putE, if_neg (by rintro (h | h); exact h1 h; rw [h5] at h; cases h)]
  repeat' first
    | refine en_n ?_
    | refine awp_seq ?_
    | refine awp_region ?_
    | refine alex_nil ?_
    | refine w0 ?_
    | (refine Y_neqb rfl rfl ut_bool)
    | (refine Y_eqlb rfl rfl ut_bool)
    | (refine Y_call hb_awake awake_ok CoL_nil)
    | (refine Y_call hb_rEnd (rEnd L at_ (by omega)) (CoL_d rfl (CoL_d rfl CoL_nil)))
    | (refine Y_call hb_own (own_ok _ (by omega)) (CoL_d rfl CoL_nil))
    | (refine Y_call hb_Sub (Sub_ok _ at_ (by omega)) (CoL_d rfl (CoL_d rfl CoL_nil)))
    | (refine Y_call hb_Put (Put_ok L at_ _ (by omega) (by omega)) (CoL_d rfl (CoL_d rfl (CoL_d rfl CoL_nil))))
    | (refine Y_call hb_Whole (Whole_ok _ (by omega)) (CoL_d rfl CoL_nil))
    | (refine Y_call hb_rWhole (rWhole_ok _ (by omega)) (CoL_d rfl CoL_nil))
    | (refine Y_call hb_rSub (rSub_ok L at_ (by omega) (by assumption)) (CoL_d rfl (CoL_d rfl CoL_nil)))
    | (refine Y_call hb_Same (Same_ok _ _ ?_) (CoL_d rfl (CoL_d rfl CoL_nil)))
    | (apply aJ (hd := rfl); (first | exact Co_dd rfl | exact Co_bb rfl rfl rfl | exact Co_nn rfl); exact rfl; exact (by first | exact es_nodes | exact es_ints | exact es_nodess); assumption; omega; exact fun _ => rfl)
    | (apply aI (hd := rfl); (first | exact Co_dd rfl | exact Co_bb rfl rfl rfl | exact Co_nn rfl); exact rfl; exact (by first | exact es_nodes | exact es_ints | exact es_nodess); exact fun _ => rfl; rotate_left; intro v hv; rotate_right)
    | (apply aApp (hd := rfl) (hro := rfl); exact rfl; exact rfl; (first | exact Co_dd rfl | exact Co_bb rfl rfl rfl | exact Co_nn rfl); (first | exact rfl | (simp; done)); exact rfl; exact (by first | exact ety_nodes | exact ety_ints | exact ety_nodess); exact (by first | exact es_nodes | exact es_ints | exact es_nodess); exact (by first | exact zl_node | exact zl_int | exact zl_nodes); exact (by first | exact by_nodes | exact by_ints | exact by_nodess); (first | exact sz_map (fun _ => rfl) | exact sz_lit rfl))
    | (apply aBox (hd := rfl) (hro := rfl); exact rfl; exact rfl)
    | (apply aAlloc (hd := rfl) (hro := rfl); exact (by first | exact zo_node | exact zo_int))
    | apply ay (hd := rfl)
    | (apply Y_move_d; exact rfl)
    | (apply Y_assign_d; exact rfl)
    | (apply Y_field_r; exact rfl; exact (by first | exact fo_0 | exact fo_1 | exact fo_2 | exact fo_3))
    | (apply Y_load_r1; exact rfl; exact (by first | exact tc_int | exact tc_nodes | exact tc_node | exact tc_ints | exact tc_kind | exact tc_i64 | exact tc_str | exact tc_bool))
    | (apply Y_load_r; exact rfl; exact (by first | exact tc_int | exact tc_nodes | exact tc_node | exact tc_ints | exact tc_kind | exact tc_i64 | exact tc_str | exact tc_bool); exact rfl)
    | (apply Y_len_m; exact rfl; exact (by first | exact et_nodes | exact et_ints | exact et_nodess))
    | (apply Y_len_d; exact rfl; exact (by first | exact et_nodes | exact et_ints | exact et_nodess))
    | (apply Y_lss; exact rfl; exact rfl)
    | (apply Y_leq; exact rfl; exact rfl)
    | (apply Y_gtr; exact rfl; exact rfl)
    | (apply Y_geq; exact rfl; exact rfl)
    | (apply Y_eql; exact rfl; exact rfl)
    | (apply Y_neq; exact rfl; exact rfl)
    | (apply Y_add; exact rfl; exact rfl)
    | (apply Y_sub; exact rfl; exact rfl)
    | (apply Y_mul; exact rfl; exact rfl)
    | (apply Y_not; exact rfl)
    | (apply Y_pick_t; exact rfl; exact rfl)
    | (apply Y_pick_f; exact rfl; exact rfl)
    | (apply Y_extract; exact rfl; exact rfl)
    | (apply Y_max; exact rfl; exact rfl)
    | (apply Y_move_nil; exact rfl)
    | (apply Y_assign_nil; exact rfl)
    | (apply Y_move_buf; exact rfl)
    | (apply Y_assign_buf; exact rfl)
    | (apply Y_len_buf; exact rfl; exact (by first | exact et_nodes | exact et_ints | exact et_nodess))
    | (apply Y_len_nil; exact rfl; exact (by first | exact et_nodes | exact et_ints | exact et_nodess))
    | (apply Y_move_ptr; exact rfl)
    | (apply Y_assign_ptr; exact rfl)
    | (apply Y_move_clo; exact rfl)
    | (apply Y_assign_clo; exact rfl)
    | (apply Y_field_p; exact rfl; exact (by first | exact fo_0 | exact fo_1 | exact fo_2 | exact fo_3))
    | (apply Y_load_p; exact rfl; exact (by first | exact tc_int | exact tc_nodes | exact tc_node | exact tc_ints | exact tc_kind | exact tc_i64 | exact tc_str | exact tc_bool); exact rfl; exact rfl)
    | (apply Y_load_pa; exact rfl; exact (by first | exact tc_int | exact tc_nodes | exact tc_node | exact tc_ints | exact tc_kind | exact tc_i64 | exact tc_str | exact tc_bool); exact rfl; exact rfl; exact rfl)
    | (apply Y_sl; (first | exact Co_dd rfl | exact Co_bb rfl rfl rfl | exact Co_nn rfl); exact (by first | exact es_nodes | exact es_ints | exact es_nodess); exact rfl; exact rfl; exact fun _ => rfl)
    | (apply Y_sl_l; (first | exact Co_dd rfl | exact Co_bb rfl rfl rfl | exact Co_nn rfl); exact (by first | exact es_nodes | exact es_ints | exact es_nodess); exact rfl; exact fun _ => rfl)
    | (apply Y_sl_h; (first | exact Co_dd rfl | exact Co_bb rfl rfl rfl | exact Co_nn rfl); exact (by first | exact es_nodes | exact es_ints | exact es_nodess); exact rfl; exact fun _ => rfl)
    | (apply Y_lit0; exact (by first | exact ety_nodes | exact ety_ints | exact ety_nodess); exact (by first | exact es_nodes | exact es_ints | exact es_nodess); exact (by first | exact zs_node | exact zs_int | exact zs_nodes); exact rfl)
    | (apply Y_lit1; exact (by first | exact ety_nodes | exact ety_ints | exact ety_nodess); exact (by first | exact es_nodes | exact es_ints | exact es_nodess); exact (by first | exact zs_node | exact zs_int | exact zs_nodes); exact rfl; exact rfl; (first | exact CoL_d rfl CoL_nil | exact CoL_b rfl rfl rfl CoL_nil | exact CoL_n rfl CoL_nil); exact rfl)
    | (apply Y_lit2; exact (by first | exact ety_nodes | exact ety_ints | exact ety_nodess); exact (by first | exact es_nodes | exact es_ints | exact es_nodess); exact (by first | exact zs_node | exact zs_int | exact zs_nodes); exact rfl; exact rfl; (first | exact CoL_d rfl (CoL_d rfl CoL_nil) | exact CoL_b rfl rfl rfl (CoL_b rfl rfl rfl CoL_nil)); exact rfl)
    | (apply Y_lit3; exact (by first | exact ety_nodes | exact ety_ints | exact ety_nodess); exact (by first | exact es_nodes | exact es_ints | exact es_nodess); exact (by first | exact zs_node | exact zs_int | exact zs_nodes); exact rfl; exact rfl; (exact CoL_d rfl (CoL_d rfl (CoL_d rfl CoL_nil))); exact rfl)
    | (apply Y_lit4; exact (by first | exact ety_nodes | exact ety_ints | exact ety_nodess); exact (by first | exact es_nodes | exact es_ints | exact es_nodess); exact (by first | exact zs_node | exact zs_int | exact zs_nodes); exact rfl; exact rfl; (exact CoL_d rfl (CoL_d rfl (CoL_d rfl (CoL_d rfl CoL_nil)))); exact rfl)
    | (apply Y_mkf; exact rfl)
    | (apply w1; exact rfl; exact rfl)
    | (apply k1 (hd := rfl); exact rfl; exact rfl)
    | (apply k0 (hd := rfl); exact rfl; exact rfl)
    | (apply gD; exact rfl; exact rfl; (intro hb); rotate_left; (intro hb); rotate_right)
    | (apply gN; exact rfl; exact rfl; (intro hb); rotate_left; (intro hb); rotate_right)
    | (apply g1; exact rfl; exact rfl; (intro hb); rotate_left; (intro hb); rotate_right)
    | (refine w0' ?_)
    | (apply aStore; exact rfl; exact rfl; exact rfl; exact (by first | exact tc_int | exact tc_nodes | exact tc_node | exact tc_ints | exact tc_kind | exact tc_i64 | exact tc_str | exact tc_bool); exact rfl; exact rfl; exact rfl; exact rfl)
    | (apply awp_condD; exact rfl; (intro hb); rotate_left; (intro hb); rotate_right)
    | (apply awp_condN; exact rfl; (intro hb); rotate_left; (intro hb); rotate_right)
    | (apply awp_condT; exact rfl)
    | (apply awp_condF; exact rfl)
    | (apply awp_cond; exact rfl; (intro hb); rotate_left; (intro hb); rotate_right)
    | refine awp_block ?_
    | refine awp_skip ?_
    | refine awp_ret ?_
    | refine awp_exit ?_
    | refine awp_label ?_
    | refine awp_goto ?_
    | refine awp_draw (by kernel_rfl) (by kernel_rfl) ?_
    | refine en_r ?_
    | refine en_e ?_
    | refine eb_n ?_
    | refine eb_r ?_
    | refine eb_e ?_
    | refine eb_o rfl ?_
    | refine en_g ?_
    | refine eb_g ?_
    | refine ej_n ?_
    | refine ej_r ?_
    | refine ej_e ?_
    | refine ej_g ?_
    | refine rpost_ret ?_
    | (apply res1; exact rfl)
    | (apply res1n; exact rfl)
    | (apply res1b; exact rfl; exact rfl; (first | exact rfl | (simp; done)))
    | (apply res2; exact rfl; exact rfl)
    | (apply res2n; exact rfl; exact rfl)
    | (apply res2b; exact rfl; exact rfl; (first | exact rfl | (simp; done)); exact rfl)
    | exact CoL_nil
    | refine CoL_d rfl ?_
    | refine CoL_b rfl rfl rfl ?_
    | refine CoL_n rfl ?_
    | refine CoL_v rfl ?_
  · rfl
  · rfl
  · rename_i h1; rw [(put_bad B (.inl h1)).2]; rfl
  · rename_i h1; rw [(put_bad B (.inl h1)).1] at hb; exact absurd rfl hb
  · rename_i h1; rw [(put_bad B (.inr (by simpa using h1))).2]; rfl
  · rename_i h1; rw [(put_bad B (.inr (by simpa using h1))).1] at hb; exact absurd rfl hb
  all_goals obtain ⟨e1, e2, e3, e4, e5, e6, e7, e8, b1, b2, b3, b4, b5, b6⟩ := hgood (by assumption) (by assumption)
  all_goals first
    | omega
    | (simp only [List.length_take, List.length_drop]; omega)
    | exact absurd e1 hb
    | exact absurd e2 hb
    | exact absurd e3 hb
    | exact absurd e4 hb
    | exact absurd e5 hb
    | exact absurd e7 hb
    | (rw [e6] at hb; simp at hb; done)
    | (rw [decide_eq_true e8]; done)
end Go.Proofs.Ytcmbbnidnddomaa
