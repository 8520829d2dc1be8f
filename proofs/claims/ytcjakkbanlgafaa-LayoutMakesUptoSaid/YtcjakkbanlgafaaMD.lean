/- Texts of this claim, merged: LayC, LayD, LayE, LayK, LayL, LayM, LayG, LayG1, LayG2, LayG3, LayG4. -/
import Derived.Test.YtcjakkbanlgafaaMC
/- The layout statements: the pen: strings.Builder's methods, put, feed, fits. -/
namespace Go.Proofs.Ytcjakkbanlgafaa
open Go.Sx Go.RowKit Go.Lib
attribute [local irreducible] Ylds astep alex alexE alexD awp PCall FCall RCall MCall QCall athen ablock ajump rpost fpost mpost

theorem pf_0 : fieldOff Try.prog 53 0 = some 0 := by kernel_rfl
theorem pf_1 : fieldOff Try.prog 53 1 = some 2 := by kernel_rfl
theorem pf_2 : fieldOff Try.prog 53 2 = some 3 := by kernel_rfl
theorem bf_0 : fieldOff Try.prog 50 0 = some 0 := by kernel_rfl
theorem bf_1 : fieldOff Try.prog 50 1 = some 1 := by kernel_rfl
theorem tc_ad : tyCells Try.prog 47 = some (false, 1) := by kernel_rfl
theorem tc_by : tyCells Try.prog 48 = some (false, 1) := by kernel_rfl
theorem tc_cx : tyCells Try.prog 51 = some (false, 1) := by kernel_rfl
theorem es_by : elemSize Try.prog 48 = some 1 := by kernel_rfl
theorem et_by : (elemTy Try.prog 48).isSome = true := by kernel_rfl
theorem ety_by : elemTy Try.prog 48 = some 5 := by kernel_rfl
theorem zl_u8 : zeroLen Try.prog 5 = some 1 := by kernel_rfl
theorem by_by : bytesOf Try.prog 48 = some 1 := by kernel_rfl
theorem zs_u8 : (zeroOf Try.prog 5).isSome = true := by kernel_rfl
theorem up_ad : Try.prog.underlying 47 = some (.pointer 50) := by kernel_rfl
theorem up_un : Try.prog.underlying 85 = some .unsafePointer := by kernel_rfl
theorem up_by : Try.prog.underlying 48 = some (.slice 5) := by kernel_rfl
theorem up_pb : Try.prog.underlying 67 = some (.pointer 5) := by kernel_rfl
theorem up_fl : Try.prog.underlying 75 = some (.float .f64) := by kernel_rfl
theorem si_int : (Try.prog.underlying 3).isSome = true := by kernel_rfl
theorem pe_ad : Try.prog.underlying 47 = some (.pointer (Try.prog.pointee 47)) := by kernel_rfl
theorem in_b : (Try.prog.info? 50).isSome = true := by kernel_rfl
theorem in_bz : ((Try.prog.info? 50).map fun i => Nat.blt 0 i.size) = some true := by kernel_rfl
theorem by_u8 : byteTy Try.prog 5 = true := by kernel_rfl
theorem noEsc_ok : noEsc Try.prog 54 := ⟨Try.f54, Try.func54, by kernel_rfl, by kernel_rfl, by kernel_rfl, by kernel_rfl⟩

/-- the pen: has it been written to; what it has written; column and line -/
structure Pen where
  u : Bool
  out : List UInt8
  col : Nat
  row : Nat
def adS (u : Bool) : SV := match u with
  | true => .ptr 0 0
  | false => .d (.val (.pointer none))
abbrev penOb (p : Pen) (w : Int) : Ob := .bx none (some 53) [adS p.u, .buf 1 p.out.length, .d (cx p.col p.row), .d (.val (.int .i64 w))]
abbrev rowOb (p : Pen) : Ob := .buf true 5 1 (bys p.out)

theorem lies : liesAt Try.prog Try.prog.depth 53 (4 / Try.prog.cellsOf 53) 0 50 1 = true := by kernel_rfl

theorem copyCheck_ok (p : Pen) (w : Int) : MCall Try.prog 48 [.ptr 0 0] [penOb p w, rowOb p] .top [penOb ⟨true, p.out, p.col, p.row⟩ w, rowOb p] := by
  obtain ⟨u, out, a, b⟩ := p
  cases u <;> refine mcall_of Try.func48 rfl Try.ntmps48 Try.results48 rfl rfl rfl ?_
  all_goals intro wb St0 X fx
  all_goals skip
  repeat' first
    | refine en_n ?_
    | refine awp_seq ?_
    | refine awp_region ?_
    | refine alex_nil ?_
    | refine w0 ?_
    | (apply Y_nilc_p; exact rfl)
    | (apply Y_eqnil_n; exact rfl; exact rfl; exact pe_ad)
    | (apply Y_eqnil_p; exact rfl; exact rfl; exact pe_ad)
    | (apply Y_neqpp; exact rfl; exact rfl; exact up_ad; exact in_b)
    | (apply Y_tounsafe; exact rfl; exact rfl; exact rfl; exact up_ad; exact up_un; exact in_bz)
    | (apply Y_noesc; exact rfl; exact noEsc_ok)
    | (apply Y_fromunsafe; exact rfl; exact rfl; exact up_un; exact up_ad; exact in_b; exact lies)
    | (apply aJ (hd := rfl); (first | exact Co_dd rfl | exact Co_bb rfl rfl rfl | exact Co_nn rfl); exact rfl; exact (by first | exact es_by | exact es_nodes | exact es_ints | exact es_nodess); assumption; omega; exact fun _ => rfl)
    | (apply aI (hd := rfl); (first | exact Co_dd rfl | exact Co_bb rfl rfl rfl | exact Co_nn rfl); exact rfl; exact (by first | exact es_by | exact es_nodes | exact es_ints | exact es_nodess); exact fun _ => rfl; rotate_left; intro v hv; rotate_right)
    | (apply aApp (hd := rfl) (hro := rfl); exact rfl; exact rfl; (first | exact Co_dd rfl | exact Co_bb rfl rfl rfl | exact Co_nn rfl); (first | exact rfl | (simp; done)); exact rfl; exact (by first | exact ety_by | exact ety_nodes | exact ety_ints | exact ety_nodess); exact (by first | exact es_by | exact es_nodes | exact es_ints | exact es_nodess); exact (by first | exact zl_u8 | exact zl_node | exact zl_int | exact zl_nodes); exact (by first | exact by_by | exact by_nodes | exact by_ints | exact by_nodess); (first | exact sz_map (fun _ => rfl) | exact sz_lit rfl))
    | (apply aBox (hd := rfl) (hro := rfl); exact rfl; exact rfl)
    | (apply aAlloc (hd := rfl) (hro := rfl); exact (by first | exact zo_node | exact zo_int))
    | apply ay (hd := rfl)
    | (apply Y_move_d; exact rfl)
    | (apply Y_assign_d; exact rfl)
    | (apply Y_field_r; exact rfl; exact (by first | exact pf_0 | exact pf_1 | exact pf_2 | exact bf_0 | exact bf_1 | exact fo_0 | exact fo_1 | exact fo_2 | exact fo_3))
    | (apply Y_load_r1; exact rfl; exact (by first | exact tc_ad | exact tc_by | exact tc_cx | exact tc_int | exact tc_nodes | exact tc_node | exact tc_ints | exact tc_kind | exact tc_i64 | exact tc_str | exact tc_bool))
    | (apply Y_load_r; exact rfl; exact (by first | exact tc_ad | exact tc_by | exact tc_cx | exact tc_int | exact tc_nodes | exact tc_node | exact tc_ints | exact tc_kind | exact tc_i64 | exact tc_str | exact tc_bool); exact rfl)
    | (apply Y_len_m; exact rfl; exact (by first | exact et_by | exact et_nodes | exact et_ints | exact et_nodess))
    | (apply Y_len_d; exact rfl; exact (by first | exact et_by | exact et_nodes | exact et_ints | exact et_nodess))
    | (apply Y_lss; exact rfl; exact rfl)
    | (apply Y_leq; exact rfl; exact rfl)
    | (apply Y_gtr; exact rfl; exact rfl)
    | (apply Y_geq; exact rfl; exact rfl)
    | (apply Y_eql; exact rfl; exact rfl)
    | (apply Y_neq; exact rfl; exact rfl)
    | (apply Y_add; exact rfl; exact rfl)
    | (apply Y_sub; exact rfl; exact rfl)
    | (apply Y_mul; exact rfl; exact rfl)
    | (apply Y_not; exact rfl)
    | (apply Y_pick_t; exact rfl; exact rfl)
    | (apply Y_pick_f; exact rfl; exact rfl)
    | (apply Y_extract; exact rfl; exact rfl)
    | (apply Y_max; exact rfl; exact rfl)
    | (apply Y_move_nil; exact rfl)
    | (apply Y_assign_nil; exact rfl)
    | (apply Y_move_buf; exact rfl)
    | (apply Y_assign_buf; exact rfl)
    | (apply Y_len_buf; exact rfl; exact (by first | exact et_by | exact et_nodes | exact et_ints | exact et_nodess))
    | (apply Y_len_nil; exact rfl; exact (by first | exact et_by | exact et_nodes | exact et_ints | exact et_nodess))
    | (apply Y_move_ptr; exact rfl)
    | (apply Y_assign_ptr; exact rfl)
    | (apply Y_move_clo; exact rfl)
    | (apply Y_assign_clo; exact rfl)
    | (apply Y_field_p; exact rfl; exact (by first | exact pf_0 | exact pf_1 | exact pf_2 | exact bf_0 | exact bf_1 | exact fo_0 | exact fo_1 | exact fo_2 | exact fo_3))
    | (apply Y_load_p; exact rfl; exact (by first | exact tc_ad | exact tc_by | exact tc_cx | exact tc_int | exact tc_nodes | exact tc_node | exact tc_ints | exact tc_kind | exact tc_i64 | exact tc_str | exact tc_bool); exact rfl; exact rfl)
    | (apply Y_load_pa; exact rfl; exact (by first | exact tc_ad | exact tc_by | exact tc_cx | exact tc_int | exact tc_nodes | exact tc_node | exact tc_ints | exact tc_kind | exact tc_i64 | exact tc_str | exact tc_bool); exact rfl; exact rfl; exact rfl)
    | (apply Y_sl; (first | exact Co_dd rfl | exact Co_bb rfl rfl rfl | exact Co_nn rfl); exact (by first | exact es_by | exact es_nodes | exact es_ints | exact es_nodess); exact rfl; exact rfl; exact fun _ => rfl)
    | (apply Y_sl_l; (first | exact Co_dd rfl | exact Co_bb rfl rfl rfl | exact Co_nn rfl); exact (by first | exact es_by | exact es_nodes | exact es_ints | exact es_nodess); exact rfl; exact fun _ => rfl)
    | (apply Y_sl_h; (first | exact Co_dd rfl | exact Co_bb rfl rfl rfl | exact Co_nn rfl); exact (by first | exact es_by | exact es_nodes | exact es_ints | exact es_nodess); exact rfl; exact fun _ => rfl)
    | (apply Y_lit0; exact (by first | exact ety_by | exact ety_nodes | exact ety_ints | exact ety_nodess); exact (by first | exact es_by | exact es_nodes | exact es_ints | exact es_nodess); exact (by first | exact zs_u8 | exact zs_node | exact zs_int | exact zs_nodes); exact rfl)
    | (apply Y_lit1; exact (by first | exact ety_by | exact ety_nodes | exact ety_ints | exact ety_nodess); exact (by first | exact es_by | exact es_nodes | exact es_ints | exact es_nodess); exact (by first | exact zs_u8 | exact zs_node | exact zs_int | exact zs_nodes); exact rfl; exact rfl; (first | exact CoL_d rfl CoL_nil | exact CoL_b rfl rfl rfl CoL_nil | exact CoL_n rfl CoL_nil); exact rfl)
    | (apply Y_lit2; exact (by first | exact ety_by | exact ety_nodes | exact ety_ints | exact ety_nodess); exact (by first | exact es_by | exact es_nodes | exact es_ints | exact es_nodess); exact (by first | exact zs_u8 | exact zs_node | exact zs_int | exact zs_nodes); exact rfl; exact rfl; (first | exact CoL_d rfl (CoL_d rfl CoL_nil) | exact CoL_b rfl rfl rfl (CoL_b rfl rfl rfl CoL_nil)); exact rfl)
    | (apply Y_lit3; exact (by first | exact ety_by | exact ety_nodes | exact ety_ints | exact ety_nodess); exact (by first | exact es_by | exact es_nodes | exact es_ints | exact es_nodess); exact (by first | exact zs_u8 | exact zs_node | exact zs_int | exact zs_nodes); exact rfl; exact rfl; (exact CoL_d rfl (CoL_d rfl (CoL_d rfl CoL_nil))); exact rfl)
    | (apply Y_lit4; exact (by first | exact ety_by | exact ety_nodes | exact ety_ints | exact ety_nodess); exact (by first | exact es_by | exact es_nodes | exact es_ints | exact es_nodess); exact (by first | exact zs_u8 | exact zs_node | exact zs_int | exact zs_nodes); exact rfl; exact rfl; (exact CoL_d rfl (CoL_d rfl (CoL_d rfl (CoL_d rfl CoL_nil)))); exact rfl)
    | (apply Y_mkf; exact rfl)
    | (apply w1; exact rfl; exact rfl)
    | (apply k1 (hd := rfl); exact rfl; exact rfl)
    | (apply k0 (hd := rfl); exact rfl; exact rfl)
    | (apply gD; exact rfl; exact rfl; (intro hb); rotate_left; (intro hb); rotate_right)
    | (apply gN; exact rfl; exact rfl; (intro hb); rotate_left; (intro hb); rotate_right)
    | (apply g1; exact rfl; exact rfl; (intro hb); rotate_left; (intro hb); rotate_right)
    | (refine w0' ?_)
    | (apply aStore; exact rfl; exact rfl; exact rfl; exact (by first | exact tc_ad | exact tc_by | exact tc_cx | exact tc_int | exact tc_nodes | exact tc_node | exact tc_ints | exact tc_kind | exact tc_i64 | exact tc_str | exact tc_bool); exact rfl; exact rfl; exact rfl; exact rfl)
    | (apply awp_condD; exact rfl; (intro hb); rotate_left; (intro hb); rotate_right)
    | (apply awp_condN; exact rfl; (intro hb); rotate_left; (intro hb); rotate_right)
    | (apply awp_condT; exact rfl)
    | (apply awp_condF; exact rfl)
    | (apply awp_cond; exact rfl; (intro hb); rotate_left; (intro hb); rotate_right)
    | refine awp_block ?_
    | refine awp_skip ?_
    | refine awp_ret ?_
    | refine awp_exit ?_
    | refine awp_label ?_
    | refine awp_goto ?_
    | refine awp_draw (by kernel_rfl) (by kernel_rfl) ?_
    | refine en_r ?_
    | refine en_e ?_
    | refine eb_n ?_
    | refine eb_r ?_
    | refine eb_e ?_
    | refine eb_o rfl ?_
    | refine en_g ?_
    | refine eb_g ?_
    | refine ej_n ?_
    | refine ej_r ?_
    | refine ej_e ?_
    | refine ej_g ?_
    | refine rpost_ret ?_
    | (apply res1; exact rfl)
    | (apply res1n; exact rfl)
    | (apply res1b; exact rfl; exact rfl; (first | exact rfl | (simp; done)))
    | (apply res2; exact rfl; exact rfl)
    | (apply res2n; exact rfl; exact rfl)
    | (apply res2b; exact rfl; exact rfl; (first | exact rfl | (simp; done)); exact rfl)
    | exact CoL_nil
    | refine CoL_d rfl ?_
    | refine CoL_b rfl rfl rfl ?_
    | refine CoL_n rfl ?_
    | refine CoL_v rfl ?_
  all_goals exact mpost_nrm ⟨rfl, Fits_mk Le_nil (Pre_cons rfl rfl (Pre_cons rfl rfl Pre_nil)) rfl rfl⟩

def Pen.wr (p : Pen) (s : List UInt8) : Pen := ⟨true, p.out ++ s, p.col, p.row⟩

theorem WriteString_ok (p : Pen) (w : Int) (s : List UInt8) (hs : p.out.length + s.length ≤ 1000000000) : MCall Try.prog 44 [.ptr 0 0, .d (str s)] [penOb p w, rowOb p] .top [penOb (p.wr s) w, rowOb (p.wr s)] := by
  obtain ⟨u, out, a, b⟩ := p
  cases u <;> refine mcall_of Try.func44 rfl Try.ntmps44 Try.results44 rfl rfl rfl ?_
  all_goals intro wb St0 X fx
  all_goals skip
  repeat' first
    | refine en_n ?_
    | refine awp_seq ?_
    | refine awp_region ?_
    | refine alex_nil ?_
    | refine w0 ?_
    | (apply Y_nilc_p; exact rfl)
    | (apply Y_len_l; exact rfl; exact ustr)
    | (apply Y_eqs; exact rfl; exact rfl)
    | (apply Y_neqs; exact rfl; exact rfl)
    | (apply Y_cat_l; exact rfl; exact rfl; omega)
    | (apply Y_idx_l; exact rfl; exact rfl; exact ustr; (first
    | assumption
    | omega))
    | (apply Y_sub_l; exact rfl; exact rfl; exact rfl; exact ustr; (first
    | assumption
    | omega))
    | (refine aMCall [0, 1] hb_copyCheck (copyCheck_ok ⟨false, out, a, b⟩ w) ?_ rfl rfl (by decide) rfl rfl rfl rfl rfl rfl ?_; (repeat (refine SArgs_cons rfl ?_)); exact SArgs_nil)
    | (refine aMCall [0, 1] hb_copyCheck (copyCheck_ok ⟨true, out, a, b⟩ w) ?_ rfl rfl (by decide) rfl rfl rfl rfl rfl rfl ?_; (repeat (refine SArgs_cons rfl ?_)); exact SArgs_nil)
    | (refine aAppS (l := out) (m := s) (mu := true) (id := 1) rfl rfl rfl rfl up_by ustr by_u8 rfl rfl (by simp only at hs; omega) ?_)
    | (apply aJ (hd := rfl); (first | exact Co_dd rfl | exact Co_bb rfl rfl rfl | exact Co_nn rfl); exact rfl; exact (by first | exact es_by | exact es_nodes | exact es_ints | exact es_nodess); assumption; omega; exact fun _ => rfl)
    | (apply aI (hd := rfl); (first | exact Co_dd rfl | exact Co_bb rfl rfl rfl | exact Co_nn rfl); exact rfl; exact (by first | exact es_by | exact es_nodes | exact es_ints | exact es_nodess); exact fun _ => rfl; rotate_left; intro v hv; rotate_right)
    | (apply aApp (hd := rfl) (hro := rfl); exact rfl; exact rfl; (first | exact Co_dd rfl | exact Co_bb rfl rfl rfl | exact Co_nn rfl); (first | exact rfl | (simp; done)); exact rfl; exact (by first | exact ety_by | exact ety_nodes | exact ety_ints | exact ety_nodess); exact (by first | exact es_by | exact es_nodes | exact es_ints | exact es_nodess); exact (by first | exact zl_u8 | exact zl_node | exact zl_int | exact zl_nodes); exact (by first | exact by_by | exact by_nodes | exact by_ints | exact by_nodess); (first | exact sz_map (fun _ => rfl) | exact sz_lit rfl))
    | (apply aBox (hd := rfl) (hro := rfl); exact rfl; exact rfl)
    | (apply aAlloc (hd := rfl) (hro := rfl); exact (by first | exact zo_node | exact zo_int))
    | apply ay (hd := rfl)
    | (apply Y_move_d; exact rfl)
    | (apply Y_assign_d; exact rfl)
    | (apply Y_field_r; exact rfl; exact (by first | exact pf_0 | exact pf_1 | exact pf_2 | exact bf_0 | exact bf_1 | exact fo_0 | exact fo_1 | exact fo_2 | exact fo_3))
    | (apply Y_load_r1; exact rfl; exact (by first | exact tc_ad | exact tc_by | exact tc_cx | exact tc_int | exact tc_nodes | exact tc_node | exact tc_ints | exact tc_kind | exact tc_i64 | exact tc_str | exact tc_bool))
    | (apply Y_load_r; exact rfl; exact (by first | exact tc_ad | exact tc_by | exact tc_cx | exact tc_int | exact tc_nodes | exact tc_node | exact tc_ints | exact tc_kind | exact tc_i64 | exact tc_str | exact tc_bool); exact rfl)
    | (apply Y_len_m; exact rfl; exact (by first | exact et_by | exact et_nodes | exact et_ints | exact et_nodess))
    | (apply Y_len_d; exact rfl; exact (by first | exact et_by | exact et_nodes | exact et_ints | exact et_nodess))
    | (apply Y_lss; exact rfl; exact rfl)
    | (apply Y_leq; exact rfl; exact rfl)
    | (apply Y_gtr; exact rfl; exact rfl)
    | (apply Y_geq; exact rfl; exact rfl)
    | (apply Y_eql; exact rfl; exact rfl)
    | (apply Y_neq; exact rfl; exact rfl)
    | (apply Y_add; exact rfl; exact rfl)
    | (apply Y_sub; exact rfl; exact rfl)
    | (apply Y_mul; exact rfl; exact rfl)
    | (apply Y_not; exact rfl)
    | (apply Y_pick_t; exact rfl; exact rfl)
    | (apply Y_pick_f; exact rfl; exact rfl)
    | (apply Y_extract; exact rfl; exact rfl)
    | (apply Y_max; exact rfl; exact rfl)
    | (apply Y_move_nil; exact rfl)
    | (apply Y_assign_nil; exact rfl)
    | (apply Y_move_buf; exact rfl)
    | (apply Y_assign_buf; exact rfl)
    | (apply Y_len_buf; exact rfl; exact (by first | exact et_by | exact et_nodes | exact et_ints | exact et_nodess))
    | (apply Y_len_nil; exact rfl; exact (by first | exact et_by | exact et_nodes | exact et_ints | exact et_nodess))
    | (apply Y_move_ptr; exact rfl)
    | (apply Y_assign_ptr; exact rfl)
    | (apply Y_move_clo; exact rfl)
    | (apply Y_assign_clo; exact rfl)
    | (apply Y_field_p; exact rfl; exact (by first | exact pf_0 | exact pf_1 | exact pf_2 | exact bf_0 | exact bf_1 | exact fo_0 | exact fo_1 | exact fo_2 | exact fo_3))
    | (apply Y_load_p; exact rfl; exact (by first | exact tc_ad | exact tc_by | exact tc_cx | exact tc_int | exact tc_nodes | exact tc_node | exact tc_ints | exact tc_kind | exact tc_i64 | exact tc_str | exact tc_bool); exact rfl; exact rfl)
    | (apply Y_load_pa; exact rfl; exact (by first | exact tc_ad | exact tc_by | exact tc_cx | exact tc_int | exact tc_nodes | exact tc_node | exact tc_ints | exact tc_kind | exact tc_i64 | exact tc_str | exact tc_bool); exact rfl; exact rfl; exact rfl)
    | (apply Y_sl; (first | exact Co_dd rfl | exact Co_bb rfl rfl rfl | exact Co_nn rfl); exact (by first | exact es_by | exact es_nodes | exact es_ints | exact es_nodess); exact rfl; exact rfl; exact fun _ => rfl)
    | (apply Y_sl_l; (first | exact Co_dd rfl | exact Co_bb rfl rfl rfl | exact Co_nn rfl); exact (by first | exact es_by | exact es_nodes | exact es_ints | exact es_nodess); exact rfl; exact fun _ => rfl)
    | (apply Y_sl_h; (first | exact Co_dd rfl | exact Co_bb rfl rfl rfl | exact Co_nn rfl); exact (by first | exact es_by | exact es_nodes | exact es_ints | exact es_nodess); exact rfl; exact fun _ => rfl)
    | (apply Y_lit0; exact (by first | exact ety_by | exact ety_nodes | exact ety_ints | exact ety_nodess); exact (by first | exact es_by | exact es_nodes | exact es_ints | exact es_nodess); exact (by first | exact zs_u8 | exact zs_node | exact zs_int | exact zs_nodes); exact rfl)
    | (apply Y_lit1; exact (by first | exact ety_by | exact ety_nodes | exact ety_ints | exact ety_nodess); exact (by first | exact es_by | exact es_nodes | exact es_ints | exact es_nodess); exact (by first | exact zs_u8 | exact zs_node | exact zs_int | exact zs_nodes); exact rfl; exact rfl; (first | exact CoL_d rfl CoL_nil | exact CoL_b rfl rfl rfl CoL_nil | exact CoL_n rfl CoL_nil); exact rfl)
    | (apply Y_lit2; exact (by first | exact ety_by | exact ety_nodes | exact ety_ints | exact ety_nodess); exact (by first | exact es_by | exact es_nodes | exact es_ints | exact es_nodess); exact (by first | exact zs_u8 | exact zs_node | exact zs_int | exact zs_nodes); exact rfl; exact rfl; (first | exact CoL_d rfl (CoL_d rfl CoL_nil) | exact CoL_b rfl rfl rfl (CoL_b rfl rfl rfl CoL_nil)); exact rfl)
    | (apply Y_lit3; exact (by first | exact ety_by | exact ety_nodes | exact ety_ints | exact ety_nodess); exact (by first | exact es_by | exact es_nodes | exact es_ints | exact es_nodess); exact (by first | exact zs_u8 | exact zs_node | exact zs_int | exact zs_nodes); exact rfl; exact rfl; (exact CoL_d rfl (CoL_d rfl (CoL_d rfl CoL_nil))); exact rfl)
    | (apply Y_lit4; exact (by first | exact ety_by | exact ety_nodes | exact ety_ints | exact ety_nodess); exact (by first | exact es_by | exact es_nodes | exact es_ints | exact es_nodess); exact (by first | exact zs_u8 | exact zs_node | exact zs_int | exact zs_nodes); exact rfl; exact rfl; (exact CoL_d rfl (CoL_d rfl (CoL_d rfl (CoL_d rfl CoL_nil)))); exact rfl)
    | (apply Y_mkf; exact rfl)
    | (apply w1; exact rfl; exact rfl)
    | (apply k1 (hd := rfl); exact rfl; exact rfl)
    | (apply k0 (hd := rfl); exact rfl; exact rfl)
    | (apply gD; exact rfl; exact rfl; (intro hb); rotate_left; (intro hb); rotate_right)
    | (apply gN; exact rfl; exact rfl; (intro hb); rotate_left; (intro hb); rotate_right)
    | (apply g1; exact rfl; exact rfl; (intro hb); rotate_left; (intro hb); rotate_right)
    | (refine w0' ?_)
    | (apply aStore; exact rfl; exact rfl; exact rfl; exact (by first | exact tc_ad | exact tc_by | exact tc_cx | exact tc_int | exact tc_nodes | exact tc_node | exact tc_ints | exact tc_kind | exact tc_i64 | exact tc_str | exact tc_bool); exact rfl; exact rfl; exact rfl; exact rfl)
    | (apply awp_condD; exact rfl; (intro hb); rotate_left; (intro hb); rotate_right)
    | (apply awp_condN; exact rfl; (intro hb); rotate_left; (intro hb); rotate_right)
    | (apply awp_condT; exact rfl)
    | (apply awp_condF; exact rfl)
    | (apply awp_cond; exact rfl; (intro hb); rotate_left; (intro hb); rotate_right)
    | refine awp_block ?_
    | refine awp_skip ?_
    | refine awp_ret ?_
    | refine awp_exit ?_
    | refine awp_label ?_
    | refine awp_goto ?_
    | refine awp_draw (by kernel_rfl) (by kernel_rfl) ?_
    | refine en_r ?_
    | refine en_e ?_
    | refine eb_n ?_
    | refine eb_r ?_
    | refine eb_e ?_
    | refine eb_o rfl ?_
    | refine en_g ?_
    | refine eb_g ?_
    | refine ej_n ?_
    | refine ej_r ?_
    | refine ej_e ?_
    | refine ej_g ?_
    | refine rpost_ret ?_
    | (apply res1; exact rfl)
    | (apply res1n; exact rfl)
    | (apply res1b; exact rfl; exact rfl; (first | exact rfl | (simp; done)))
    | (apply res2; exact rfl; exact rfl)
    | (apply res2n; exact rfl; exact rfl)
    | (apply res2b; exact rfl; exact rfl; (first | exact rfl | (simp; done)); exact rfl)
    | exact CoL_nil
    | refine CoL_d rfl ?_
    | refine CoL_b rfl rfl rfl ?_
    | refine CoL_n rfl ?_
    | refine CoL_v rfl ?_
  all_goals exact mpost_ret ⟨rfl, Fits_mk Le_nil (Pre_cons rfl rfl (Pre_cons rfl rfl Pre_nil)) rfl rfl⟩

theorem bys_snoc (l : List UInt8) (c : UInt8) : bys l ++ [.val (.int .u8 c.toNat)] = bys (l ++ [c]) := by simp [bys]

theorem WriteByte_ok (p : Pen) (w : Int) (hs : p.out.length ≤ 1000000000) : MCall Try.prog 45 [.ptr 0 0, .d (.val (.int .u8 10))] [penOb p w, rowOb p] (.d (.val .nilIface)) [penOb (p.wr [10]) w, rowOb (p.wr [10])] := by
  obtain ⟨u, out, a, b⟩ := p
  simp only at hs
  cases u <;> refine mcall_of Try.func45 rfl Try.ntmps45 Try.results45 rfl rfl rfl ?_
  all_goals intro wb St0 X fx
  all_goals skip
  repeat' first
    | refine en_n ?_
    | refine awp_seq ?_
    | refine awp_region ?_
    | refine alex_nil ?_
    | refine w0 ?_
    | (apply Y_nilc_p; exact rfl)
    | (apply Y_len_l; exact rfl; exact ustr)
    | (apply Y_eqs; exact rfl; exact rfl)
    | (apply Y_neqs; exact rfl; exact rfl)
    | (apply Y_cat_l; exact rfl; exact rfl; omega)
    | (apply Y_idx_l; exact rfl; exact rfl; exact ustr; (first
    | assumption
    | omega))
    | (apply Y_sub_l; exact rfl; exact rfl; exact rfl; exact ustr; (first
    | assumption
    | omega))
    | (refine aMCall [0, 1] hb_copyCheck (copyCheck_ok ⟨false, out, a, b⟩ w) ?_ rfl rfl (by decide) rfl rfl rfl rfl rfl rfl ?_; (repeat (refine SArgs_cons rfl ?_)); exact SArgs_nil)
    | (refine aMCall [0, 1] hb_copyCheck (copyCheck_ok ⟨true, out, a, b⟩ w) ?_ rfl rfl (by decide) rfl rfl rfl rfl rfl rfl ?_; (repeat (refine SArgs_cons rfl ?_)); exact SArgs_nil)
    | (apply aLit1 (hd := rfl) (hro := rfl); exact ety_by; exact es_by; exact zs_u8; exact rfl; exact rfl; exact CoL_d rfl CoL_nil; exact rfl)
    | (refine aApp (id := 1) (n := out.length) (mu := true) (m := 1) (xs := bys out) (ys := [.val (.int .u8 10)]) rfl rfl (Co_bb rfl rfl rfl) (bys_len _).symm rfl ety_by es_by zl_u8 by_by rfl rfl (sz_lit rfl) (by omega) ?_)
    | (apply aJ (hd := rfl); (first | exact Co_dd rfl | exact Co_bb rfl rfl rfl | exact Co_nn rfl); exact rfl; exact (by first | exact es_by | exact es_nodes | exact es_ints | exact es_nodess); assumption; omega; exact fun _ => rfl)
    | (apply aI (hd := rfl); (first | exact Co_dd rfl | exact Co_bb rfl rfl rfl | exact Co_nn rfl); exact rfl; exact (by first | exact es_by | exact es_nodes | exact es_ints | exact es_nodess); exact fun _ => rfl; rotate_left; intro v hv; rotate_right)
    | (apply aApp (hd := rfl) (hro := rfl); exact rfl; exact rfl; (first | exact Co_dd rfl | exact Co_bb rfl rfl rfl | exact Co_nn rfl); (first | exact rfl | (simp; done)); exact rfl; exact (by first | exact ety_by | exact ety_nodes | exact ety_ints | exact ety_nodess); exact (by first | exact es_by | exact es_nodes | exact es_ints | exact es_nodess); exact (by first | exact zl_u8 | exact zl_node | exact zl_int | exact zl_nodes); exact (by first | exact by_by | exact by_nodes | exact by_ints | exact by_nodess); (first | exact sz_map (fun _ => rfl) | exact sz_lit rfl))
    | (apply aBox (hd := rfl) (hro := rfl); exact rfl; exact rfl)
    | (apply aAlloc (hd := rfl) (hro := rfl); exact (by first | exact zo_node | exact zo_int))
    | apply ay (hd := rfl)
    | (apply Y_move_d; exact rfl)
    | (apply Y_assign_d; exact rfl)
    | (apply Y_field_r; exact rfl; exact (by first | exact pf_0 | exact pf_1 | exact pf_2 | exact bf_0 | exact bf_1 | exact fo_0 | exact fo_1 | exact fo_2 | exact fo_3))
    | (apply Y_load_r1; exact rfl; exact (by first | exact tc_ad | exact tc_by | exact tc_cx | exact tc_int | exact tc_nodes | exact tc_node | exact tc_ints | exact tc_kind | exact tc_i64 | exact tc_str | exact tc_bool))
    | (apply Y_load_r; exact rfl; exact (by first | exact tc_ad | exact tc_by | exact tc_cx | exact tc_int | exact tc_nodes | exact tc_node | exact tc_ints | exact tc_kind | exact tc_i64 | exact tc_str | exact tc_bool); exact rfl)
    | (apply Y_len_m; exact rfl; exact (by first | exact et_by | exact et_nodes | exact et_ints | exact et_nodess))
    | (apply Y_len_d; exact rfl; exact (by first | exact et_by | exact et_nodes | exact et_ints | exact et_nodess))
    | (apply Y_lss; exact rfl; exact rfl)
    | (apply Y_leq; exact rfl; exact rfl)
    | (apply Y_gtr; exact rfl; exact rfl)
    | (apply Y_geq; exact rfl; exact rfl)
    | (apply Y_eql; exact rfl; exact rfl)
    | (apply Y_neq; exact rfl; exact rfl)
    | (apply Y_add; exact rfl; exact rfl)
    | (apply Y_sub; exact rfl; exact rfl)
    | (apply Y_mul; exact rfl; exact rfl)
    | (apply Y_not; exact rfl)
    | (apply Y_pick_t; exact rfl; exact rfl)
    | (apply Y_pick_f; exact rfl; exact rfl)
    | (apply Y_extract; exact rfl; exact rfl)
    | (apply Y_max; exact rfl; exact rfl)
    | (apply Y_move_nil; exact rfl)
    | (apply Y_assign_nil; exact rfl)
    | (apply Y_move_buf; exact rfl)
    | (apply Y_assign_buf; exact rfl)
    | (apply Y_len_buf; exact rfl; exact (by first | exact et_by | exact et_nodes | exact et_ints | exact et_nodess))
    | (apply Y_len_nil; exact rfl; exact (by first | exact et_by | exact et_nodes | exact et_ints | exact et_nodess))
    | (apply Y_move_ptr; exact rfl)
    | (apply Y_assign_ptr; exact rfl)
    | (apply Y_move_clo; exact rfl)
    | (apply Y_assign_clo; exact rfl)
    | (apply Y_field_p; exact rfl; exact (by first | exact pf_0 | exact pf_1 | exact pf_2 | exact bf_0 | exact bf_1 | exact fo_0 | exact fo_1 | exact fo_2 | exact fo_3))
    | (apply Y_load_p; exact rfl; exact (by first | exact tc_ad | exact tc_by | exact tc_cx | exact tc_int | exact tc_nodes | exact tc_node | exact tc_ints | exact tc_kind | exact tc_i64 | exact tc_str | exact tc_bool); exact rfl; exact rfl)
    | (apply Y_load_pa; exact rfl; exact (by first | exact tc_ad | exact tc_by | exact tc_cx | exact tc_int | exact tc_nodes | exact tc_node | exact tc_ints | exact tc_kind | exact tc_i64 | exact tc_str | exact tc_bool); exact rfl; exact rfl; exact rfl)
    | (apply Y_sl; (first | exact Co_dd rfl | exact Co_bb rfl rfl rfl | exact Co_nn rfl); exact (by first | exact es_by | exact es_nodes | exact es_ints | exact es_nodess); exact rfl; exact rfl; exact fun _ => rfl)
    | (apply Y_sl_l; (first | exact Co_dd rfl | exact Co_bb rfl rfl rfl | exact Co_nn rfl); exact (by first | exact es_by | exact es_nodes | exact es_ints | exact es_nodess); exact rfl; exact fun _ => rfl)
    | (apply Y_sl_h; (first | exact Co_dd rfl | exact Co_bb rfl rfl rfl | exact Co_nn rfl); exact (by first | exact es_by | exact es_nodes | exact es_ints | exact es_nodess); exact rfl; exact fun _ => rfl)
    | (apply Y_lit0; exact (by first | exact ety_by | exact ety_nodes | exact ety_ints | exact ety_nodess); exact (by first | exact es_by | exact es_nodes | exact es_ints | exact es_nodess); exact (by first | exact zs_u8 | exact zs_node | exact zs_int | exact zs_nodes); exact rfl)
    | (apply Y_lit1; exact (by first | exact ety_by | exact ety_nodes | exact ety_ints | exact ety_nodess); exact (by first | exact es_by | exact es_nodes | exact es_ints | exact es_nodess); exact (by first | exact zs_u8 | exact zs_node | exact zs_int | exact zs_nodes); exact rfl; exact rfl; (first | exact CoL_d rfl CoL_nil | exact CoL_b rfl rfl rfl CoL_nil | exact CoL_n rfl CoL_nil); exact rfl)
    | (apply Y_lit2; exact (by first | exact ety_by | exact ety_nodes | exact ety_ints | exact ety_nodess); exact (by first | exact es_by | exact es_nodes | exact es_ints | exact es_nodess); exact (by first | exact zs_u8 | exact zs_node | exact zs_int | exact zs_nodes); exact rfl; exact rfl; (first | exact CoL_d rfl (CoL_d rfl CoL_nil) | exact CoL_b rfl rfl rfl (CoL_b rfl rfl rfl CoL_nil)); exact rfl)
    | (apply Y_lit3; exact (by first | exact ety_by | exact ety_nodes | exact ety_ints | exact ety_nodess); exact (by first | exact es_by | exact es_nodes | exact es_ints | exact es_nodess); exact (by first | exact zs_u8 | exact zs_node | exact zs_int | exact zs_nodes); exact rfl; exact rfl; (exact CoL_d rfl (CoL_d rfl (CoL_d rfl CoL_nil))); exact rfl)
    | (apply Y_lit4; exact (by first | exact ety_by | exact ety_nodes | exact ety_ints | exact ety_nodess); exact (by first | exact es_by | exact es_nodes | exact es_ints | exact es_nodess); exact (by first | exact zs_u8 | exact zs_node | exact zs_int | exact zs_nodes); exact rfl; exact rfl; (exact CoL_d rfl (CoL_d rfl (CoL_d rfl (CoL_d rfl CoL_nil)))); exact rfl)
    | (apply Y_mkf; exact rfl)
    | (apply w1; exact rfl; exact rfl)
    | (apply k1 (hd := rfl); exact rfl; exact rfl)
    | (apply k0 (hd := rfl); exact rfl; exact rfl)
    | (apply gD; exact rfl; exact rfl; (intro hb); rotate_left; (intro hb); rotate_right)
    | (apply gN; exact rfl; exact rfl; (intro hb); rotate_left; (intro hb); rotate_right)
    | (apply g1; exact rfl; exact rfl; (intro hb); rotate_left; (intro hb); rotate_right)
    | (refine w0' ?_)
    | (apply aStore; exact rfl; exact rfl; exact rfl; exact (by first | exact tc_ad | exact tc_by | exact tc_cx | exact tc_int | exact tc_nodes | exact tc_node | exact tc_ints | exact tc_kind | exact tc_i64 | exact tc_str | exact tc_bool); exact rfl; exact rfl; exact rfl; exact rfl)
    | (apply awp_condD; exact rfl; (intro hb); rotate_left; (intro hb); rotate_right)
    | (apply awp_condN; exact rfl; (intro hb); rotate_left; (intro hb); rotate_right)
    | (apply awp_condT; exact rfl)
    | (apply awp_condF; exact rfl)
    | (apply awp_cond; exact rfl; (intro hb); rotate_left; (intro hb); rotate_right)
    | refine awp_block ?_
    | refine awp_skip ?_
    | refine awp_ret ?_
    | refine awp_exit ?_
    | refine awp_label ?_
    | refine awp_goto ?_
    | refine awp_draw (by kernel_rfl) (by kernel_rfl) ?_
    | refine en_r ?_
    | refine en_e ?_
    | refine eb_n ?_
    | refine eb_r ?_
    | refine eb_e ?_
    | refine eb_o rfl ?_
    | refine en_g ?_
    | refine eb_g ?_
    | refine ej_n ?_
    | refine ej_r ?_
    | refine ej_e ?_
    | refine ej_g ?_
    | refine rpost_ret ?_
    | (apply res1; exact rfl)
    | (apply res1n; exact rfl)
    | (apply res1b; exact rfl; exact rfl; (first | exact rfl | (simp; done)))
    | (apply res2; exact rfl; exact rfl)
    | (apply res2n; exact rfl; exact rfl)
    | (apply res2b; exact rfl; exact rfl; (first | exact rfl | (simp; done)); exact rfl)
    | exact CoL_nil
    | refine CoL_d rfl ?_
    | refine CoL_b rfl rfl rfl ?_
    | refine CoL_n rfl ?_
    | refine CoL_v rfl ?_
  all_goals exact mpost_ret (Fits_mk (Le_d rfl rfl Le_nil) (Pre_cons rfl (by simp only [Pen.wr, List.length_append]; rfl) (Pre_buf rfl rfl (bys_snoc _ _).symm Pre_nil)) rfl rfl)

theorem k_fl0 : SV.d (D.val (.float .f64 0)) = .d (fl 0) := by
  show SV.d (D.val (.float .f64 0)) = .d (.val (.float .f64 (Fl.Fd 0)))
  rw [show Fl.Fd 0 = 0 by simp [Fl.Fd, Ieee.Format.nearest, Ieee.Format.word]]
theorem k_fl1 : SV.d (D.val (.float .f64 4607182418800017408)) = .d (fl 1) := by
  show SV.d (D.val (.float .f64 4607182418800017408)) = .d (.val (.float .f64 (Fl.Fd 1)))
  rw [show Fl.Fd 1 = 4607182418800017408 by decide +kernel]

def Pen.put (p : Pen) (s : List UInt8) : Pen := ⟨true, p.out ++ s, p.col + s.length, p.row⟩
def Pen.feed (p : Pen) (n : Nat) : Pen := ⟨true, p.out ++ 10 :: List.replicate n 32, n, p.row + 1⟩

theorem put_ok (p : Pen) (w : Int) (s : List UInt8) (hs : p.out.length + s.length ≤ 1000000000) (hc : p.col + s.length ≤ 1000000000) (hr : p.row ≤ 1000000000) : MCall Try.prog 35 [.ptr 0 0, .d (str s)] [penOb p w, rowOb p] .top [penOb (p.put s) w, rowOb (p.put s)] := by
  obtain ⟨u, out, a, b⟩ := p
  simp only at hs hc hr
  cases u <;> refine mcall_of Try.func35 rfl Try.ntmps35 Try.results35 rfl rfl rfl ?_
  all_goals intro wb St0 X fx
  all_goals skip
  repeat' first
    | refine en_n ?_
    | refine awp_seq ?_
    | refine awp_region ?_
    | refine alex_nil ?_
    | refine w0 ?_
    | (apply Y_nilc_p; exact rfl)
    | (apply Y_len_l; exact rfl; exact ustr)
    | (apply Y_eqs; exact rfl; exact rfl)
    | (apply Y_neqs; exact rfl; exact rfl)
    | (apply Y_cat_l; exact rfl; exact rfl; omega)
    | (apply Y_idx_l; exact rfl; exact rfl; exact ustr; (first
    | assumption
    | omega))
    | (apply Y_sub_l; exact rfl; exact rfl; exact rfl; exact ustr; (first
    | assumption
    | omega))
    | (refine aMCall [0, 1] hb_WriteString (WriteString_ok ⟨false, out, a, b⟩ w s hs) ?_ rfl rfl (by decide) rfl rfl rfl rfl rfl rfl ?_; (repeat (refine SArgs_cons rfl ?_)); exact SArgs_nil)
    | (refine aMCall [0, 1] hb_WriteString (WriteString_ok ⟨true, out, a, b⟩ w s hs) ?_ rfl rfl (by decide) rfl rfl rfl rfl rfl rfl ?_; (repeat (refine SArgs_cons rfl ?_)); exact SArgs_nil)
    | (refine Y_i2f (n := s.length) rfl si_int up_fl)
    | (refine Y_complex (b := 0) rfl k_fl0)
    | (refine Y_cadd (a := a) (b := b) (c := s.length) (d := 0) rfl rfl (by omega) (by omega))
    | (apply aJ (hd := rfl); (first | exact Co_dd rfl | exact Co_bb rfl rfl rfl | exact Co_nn rfl); exact rfl; exact (by first | exact es_by | exact es_nodes | exact es_ints | exact es_nodess); assumption; omega; exact fun _ => rfl)
    | (apply aI (hd := rfl); (first | exact Co_dd rfl | exact Co_bb rfl rfl rfl | exact Co_nn rfl); exact rfl; exact (by first | exact es_by | exact es_nodes | exact es_ints | exact es_nodess); exact fun _ => rfl; rotate_left; intro v hv; rotate_right)
    | (apply aApp (hd := rfl) (hro := rfl); exact rfl; exact rfl; (first | exact Co_dd rfl | exact Co_bb rfl rfl rfl | exact Co_nn rfl); (first | exact rfl | (simp; done)); exact rfl; exact (by first | exact ety_by | exact ety_nodes | exact ety_ints | exact ety_nodess); exact (by first | exact es_by | exact es_nodes | exact es_ints | exact es_nodess); exact (by first | exact zl_u8 | exact zl_node | exact zl_int | exact zl_nodes); exact (by first | exact by_by | exact by_nodes | exact by_ints | exact by_nodess); (first | exact sz_map (fun _ => rfl) | exact sz_lit rfl))
    | (apply aBox (hd := rfl) (hro := rfl); exact rfl; exact rfl)
    | (apply aAlloc (hd := rfl) (hro := rfl); exact (by first | exact zo_node | exact zo_int))
    | apply ay (hd := rfl)
    | (apply Y_move_d; exact rfl)
    | (apply Y_assign_d; exact rfl)
    | (apply Y_field_r; exact rfl; exact (by first | exact pf_0 | exact pf_1 | exact pf_2 | exact bf_0 | exact bf_1 | exact fo_0 | exact fo_1 | exact fo_2 | exact fo_3))
    | (apply Y_load_r1; exact rfl; exact (by first | exact tc_ad | exact tc_by | exact tc_cx | exact tc_int | exact tc_nodes | exact tc_node | exact tc_ints | exact tc_kind | exact tc_i64 | exact tc_str | exact tc_bool))
    | (apply Y_load_r; exact rfl; exact (by first | exact tc_ad | exact tc_by | exact tc_cx | exact tc_int | exact tc_nodes | exact tc_node | exact tc_ints | exact tc_kind | exact tc_i64 | exact tc_str | exact tc_bool); exact rfl)
    | (apply Y_len_m; exact rfl; exact (by first | exact et_by | exact et_nodes | exact et_ints | exact et_nodess))
    | (apply Y_len_d; exact rfl; exact (by first | exact et_by | exact et_nodes | exact et_ints | exact et_nodess))
    | (apply Y_lss; exact rfl; exact rfl)
    | (apply Y_leq; exact rfl; exact rfl)
    | (apply Y_gtr; exact rfl; exact rfl)
    | (apply Y_geq; exact rfl; exact rfl)
    | (apply Y_eql; exact rfl; exact rfl)
    | (apply Y_neq; exact rfl; exact rfl)
    | (apply Y_add; exact rfl; exact rfl)
    | (apply Y_sub; exact rfl; exact rfl)
    | (apply Y_mul; exact rfl; exact rfl)
    | (apply Y_not; exact rfl)
    | (apply Y_pick_t; exact rfl; exact rfl)
    | (apply Y_pick_f; exact rfl; exact rfl)
    | (apply Y_extract; exact rfl; exact rfl)
    | (apply Y_max; exact rfl; exact rfl)
    | (apply Y_move_nil; exact rfl)
    | (apply Y_assign_nil; exact rfl)
    | (apply Y_move_buf; exact rfl)
    | (apply Y_assign_buf; exact rfl)
    | (apply Y_len_buf; exact rfl; exact (by first | exact et_by | exact et_nodes | exact et_ints | exact et_nodess))
    | (apply Y_len_nil; exact rfl; exact (by first | exact et_by | exact et_nodes | exact et_ints | exact et_nodess))
    | (apply Y_move_ptr; exact rfl)
    | (apply Y_assign_ptr; exact rfl)
    | (apply Y_move_clo; exact rfl)
    | (apply Y_assign_clo; exact rfl)
    | (apply Y_field_p; exact rfl; exact (by first | exact pf_0 | exact pf_1 | exact pf_2 | exact bf_0 | exact bf_1 | exact fo_0 | exact fo_1 | exact fo_2 | exact fo_3))
    | (apply Y_load_p; exact rfl; exact (by first | exact tc_ad | exact tc_by | exact tc_cx | exact tc_int | exact tc_nodes | exact tc_node | exact tc_ints | exact tc_kind | exact tc_i64 | exact tc_str | exact tc_bool); exact rfl; exact rfl)
    | (apply Y_load_pa; exact rfl; exact (by first | exact tc_ad | exact tc_by | exact tc_cx | exact tc_int | exact tc_nodes | exact tc_node | exact tc_ints | exact tc_kind | exact tc_i64 | exact tc_str | exact tc_bool); exact rfl; exact rfl; exact rfl)
    | (apply Y_sl; (first | exact Co_dd rfl | exact Co_bb rfl rfl rfl | exact Co_nn rfl); exact (by first | exact es_by | exact es_nodes | exact es_ints | exact es_nodess); exact rfl; exact rfl; exact fun _ => rfl)
    | (apply Y_sl_l; (first | exact Co_dd rfl | exact Co_bb rfl rfl rfl | exact Co_nn rfl); exact (by first | exact es_by | exact es_nodes | exact es_ints | exact es_nodess); exact rfl; exact fun _ => rfl)
    | (apply Y_sl_h; (first | exact Co_dd rfl | exact Co_bb rfl rfl rfl | exact Co_nn rfl); exact (by first | exact es_by | exact es_nodes | exact es_ints | exact es_nodess); exact rfl; exact fun _ => rfl)
    | (apply Y_lit0; exact (by first | exact ety_by | exact ety_nodes | exact ety_ints | exact ety_nodess); exact (by first | exact es_by | exact es_nodes | exact es_ints | exact es_nodess); exact (by first | exact zs_u8 | exact zs_node | exact zs_int | exact zs_nodes); exact rfl)
    | (apply Y_lit1; exact (by first | exact ety_by | exact ety_nodes | exact ety_ints | exact ety_nodess); exact (by first | exact es_by | exact es_nodes | exact es_ints | exact es_nodess); exact (by first | exact zs_u8 | exact zs_node | exact zs_int | exact zs_nodes); exact rfl; exact rfl; (first | exact CoL_d rfl CoL_nil | exact CoL_b rfl rfl rfl CoL_nil | exact CoL_n rfl CoL_nil); exact rfl)
    | (apply Y_lit2; exact (by first | exact ety_by | exact ety_nodes | exact ety_ints | exact ety_nodess); exact (by first | exact es_by | exact es_nodes | exact es_ints | exact es_nodess); exact (by first | exact zs_u8 | exact zs_node | exact zs_int | exact zs_nodes); exact rfl; exact rfl; (first | exact CoL_d rfl (CoL_d rfl CoL_nil) | exact CoL_b rfl rfl rfl (CoL_b rfl rfl rfl CoL_nil)); exact rfl)
    | (apply Y_lit3; exact (by first | exact ety_by | exact ety_nodes | exact ety_ints | exact ety_nodess); exact (by first | exact es_by | exact es_nodes | exact es_ints | exact es_nodess); exact (by first | exact zs_u8 | exact zs_node | exact zs_int | exact zs_nodes); exact rfl; exact rfl; (exact CoL_d rfl (CoL_d rfl (CoL_d rfl CoL_nil))); exact rfl)
    | (apply Y_lit4; exact (by first | exact ety_by | exact ety_nodes | exact ety_ints | exact ety_nodess); exact (by first | exact es_by | exact es_nodes | exact es_ints | exact es_nodess); exact (by first | exact zs_u8 | exact zs_node | exact zs_int | exact zs_nodes); exact rfl; exact rfl; (exact CoL_d rfl (CoL_d rfl (CoL_d rfl (CoL_d rfl CoL_nil)))); exact rfl)
    | (apply Y_mkf; exact rfl)
    | (apply w1; exact rfl; exact rfl)
    | (apply k1 (hd := rfl); exact rfl; exact rfl)
    | (apply k0 (hd := rfl); exact rfl; exact rfl)
    | (apply gD; exact rfl; exact rfl; (intro hb); rotate_left; (intro hb); rotate_right)
    | (apply gN; exact rfl; exact rfl; (intro hb); rotate_left; (intro hb); rotate_right)
    | (apply g1; exact rfl; exact rfl; (intro hb); rotate_left; (intro hb); rotate_right)
    | (refine w0' ?_)
    | (apply aStore; exact rfl; exact rfl; exact rfl; exact (by first | exact tc_ad | exact tc_by | exact tc_cx | exact tc_int | exact tc_nodes | exact tc_node | exact tc_ints | exact tc_kind | exact tc_i64 | exact tc_str | exact tc_bool); exact rfl; exact rfl; exact rfl; exact rfl)
    | (apply awp_condD; exact rfl; (intro hb); rotate_left; (intro hb); rotate_right)
    | (apply awp_condN; exact rfl; (intro hb); rotate_left; (intro hb); rotate_right)
    | (apply awp_condT; exact rfl)
    | (apply awp_condF; exact rfl)
    | (apply awp_cond; exact rfl; (intro hb); rotate_left; (intro hb); rotate_right)
    | refine awp_block ?_
    | refine awp_skip ?_
    | refine awp_ret ?_
    | refine awp_exit ?_
    | refine awp_label ?_
    | refine awp_goto ?_
    | refine awp_draw (by kernel_rfl) (by kernel_rfl) ?_
    | refine en_r ?_
    | refine en_e ?_
    | refine eb_n ?_
    | refine eb_r ?_
    | refine eb_e ?_
    | refine eb_o rfl ?_
    | refine en_g ?_
    | refine eb_g ?_
    | refine ej_n ?_
    | refine ej_r ?_
    | refine ej_e ?_
    | refine ej_g ?_
    | refine rpost_ret ?_
    | (apply res1; exact rfl)
    | (apply res1n; exact rfl)
    | (apply res1b; exact rfl; exact rfl; (first | exact rfl | (simp; done)))
    | (apply res2; exact rfl; exact rfl)
    | (apply res2n; exact rfl; exact rfl)
    | (apply res2b; exact rfl; exact rfl; (first | exact rfl | (simp; done)); exact rfl)
    | exact CoL_nil
    | refine CoL_d rfl ?_
    | refine CoL_b rfl rfl rfl ?_
    | refine CoL_n rfl ?_
    | refine CoL_v rfl ?_
  all_goals exact mpost_nrm ⟨rfl, Fits_mk Le_nil (Pre_cons rfl rfl (Pre_cons rfl rfl Pre_nil)) rfl rfl⟩

end Go.Proofs.Ytcjakkbanlgafaa
/- The layout statements: the pen: feed, fits, String. -/
namespace Go.Proofs.Ytcjakkbanlgafaa
open Go.Sx Go.RowKit Go.Lib
attribute [local irreducible] Ylds astep alex alexE alexD awp PCall FCall RCall MCall QCall athen ablock ajump rpost fpost mpost

theorem rep_blank : ∀ n, Lib.repeatL [32] n = List.replicate n 32
  | 0 => rfl
  | n + 1 => by rw [Lib.repeatL, rep_blank n]; rfl
theorem Repeat_ok (n : Nat) (h : n ≤ 1000000000) : PCall Try.prog 46 [str [32], i64 n] (str (List.replicate n 32)) :=
  pcall_plain (us := [.string ⟨[32].toArray⟩, .int .i64 n]) (fun _ _ => .val _) fun _ w _ => (Try.strings_Repeat ⟨[32].toArray⟩ n w (by omega) (by rw [str_size]; simp only [List.length_singleton]; omega)).mono fun e w' ⟨he, hw⟩ => ⟨by rw [he]; show Ending.returned (.string ⟨(Lib.repeatL [32] n).toArray⟩) = _; rw [rep_blank], hw⟩

theorem feed_ok (p : Pen) (w : Int) (n : Nat) (hs : p.out.length + n ≤ 900000000) (hn : n ≤ 900000000) (hr : p.row ≤ 900000000) : MCall Try.prog 36 [.ptr 0 0, .d (i64 n)] [penOb p w, rowOb p] .top [penOb (p.feed n) w, rowOb (p.feed n)] := by
  obtain ⟨u, out, a, b⟩ := p
  simp only at hs hr
  have e1 : (out ++ [10]) ++ List.replicate n 32 = out ++ 10 :: List.replicate n 32 := by simp
  have e2 : (List.replicate n (32 : UInt8)).length = n := by simp
  have hput := put_ok ⟨true, out ++ [10], 0, b + 1⟩ w (List.replicate n 32) (by simp only [List.length_append, List.length_singleton, e2]; omega) (by show 0 + _ ≤ _; rw [e2]; omega) (by show b + 1 ≤ _; omega)
  rw [show Pen.put ⟨true, out ++ [10], 0, b + 1⟩ (List.replicate n 32) = Pen.feed ⟨u, out, a, b⟩ n by simp [Pen.put, Pen.feed]] at hput
  cases u <;> refine mcall_of Try.func36 rfl Try.ntmps36 Try.results36 rfl rfl rfl ?_
  all_goals intro wb St0 X fx
  all_goals skip
  repeat' first
    | refine en_n ?_
    | refine awp_seq ?_
    | refine awp_region ?_
    | refine alex_nil ?_
    | refine w0 ?_
    | (apply Y_nilc_p; exact rfl)
    | (apply Y_len_l; exact rfl; exact ustr)
    | (apply Y_eqs; exact rfl; exact rfl)
    | (apply Y_neqs; exact rfl; exact rfl)
    | (apply Y_cat_l; exact rfl; exact rfl; omega)
    | (apply Y_idx_l; exact rfl; exact rfl; exact ustr; (first
    | assumption
    | omega))
    | (apply Y_sub_l; exact rfl; exact rfl; exact rfl; exact ustr; (first
    | assumption
    | omega))
    | (refine aMCall [0, 1] hb_WriteByte (WriteByte_ok ⟨false, out, a, b⟩ w (by simp only; omega)) ?_ rfl rfl (by decide) rfl rfl rfl rfl rfl rfl ?_; (repeat (refine SArgs_cons rfl ?_)); exact SArgs_nil)
    | (refine aMCall [0, 1] hb_WriteByte (WriteByte_ok ⟨true, out, a, b⟩ w (by simp only; omega)) ?_ rfl rfl (by decide) rfl rfl rfl rfl rfl rfl ?_; (repeat (refine SArgs_cons rfl ?_)); exact SArgs_nil)
    | (apply Y_call (hb := hb_Repeat) (hc := Repeat_ok n (by omega)))
    | (refine aMCall [0, 1] hb_put (hput) ?_ rfl rfl (by decide) rfl rfl rfl rfl rfl rfl ?_; (repeat (refine SArgs_cons rfl ?_)); exact SArgs_nil)
    | (refine Y_imag (a := a) (b := b) rfl)
    | (refine Y_fadd (a := b) (b := 1) rfl k_fl1 (by omega))
    | (refine Y_complex (a := 0) (b := b + 1) k_fl0 rfl)
    | (apply aJ (hd := rfl); (first | exact Co_dd rfl | exact Co_bb rfl rfl rfl | exact Co_nn rfl); exact rfl; exact (by first | exact es_nodes | exact es_ints | exact es_nodess | exact es_by); assumption; omega; exact fun _ => rfl)
    | (apply aI (hd := rfl); (first | exact Co_dd rfl | exact Co_bb rfl rfl rfl | exact Co_nn rfl); exact rfl; exact (by first | exact es_nodes | exact es_ints | exact es_nodess | exact es_by); exact fun _ => rfl; rotate_left; intro v hv; rotate_right)
    | (apply aApp (hd := rfl) (hro := rfl); exact rfl; exact rfl; (first | exact Co_dd rfl | exact Co_bb rfl rfl rfl | exact Co_nn rfl); (first | exact rfl | (simp; done)); exact rfl; exact (by first | exact ety_nodes | exact ety_ints | exact ety_nodess | exact ety_by); exact (by first | exact es_nodes | exact es_ints | exact es_nodess | exact es_by); exact (by first | exact zl_node | exact zl_int | exact zl_nodes | exact zl_u8); exact (by first | exact by_nodes | exact by_ints | exact by_nodess | exact by_by); (first | exact sz_map (fun _ => rfl) | exact sz_lit rfl))
    | (apply aBox (hd := rfl) (hro := rfl); exact rfl; exact rfl)
    | (apply aAlloc (hd := rfl) (hro := rfl); exact (by first | exact zo_node | exact zo_int))
    | apply ay (hd := rfl)
    | (apply Y_move_d; exact rfl)
    | (apply Y_assign_d; exact rfl)
    | (apply Y_field_r; exact rfl; exact (by first | exact fo_0 | exact fo_1 | exact fo_2 | exact fo_3 | exact pf_0 | exact pf_1 | exact pf_2 | exact bf_0 | exact bf_1))
    | (apply Y_load_r1; exact rfl; exact (by first | exact tc_int | exact tc_nodes | exact tc_node | exact tc_ints | exact tc_kind | exact tc_i64 | exact tc_str | exact tc_bool | exact tc_ad | exact tc_by | exact tc_cx))
    | (apply Y_load_r; exact rfl; exact (by first | exact tc_int | exact tc_nodes | exact tc_node | exact tc_ints | exact tc_kind | exact tc_i64 | exact tc_str | exact tc_bool | exact tc_ad | exact tc_by | exact tc_cx); exact rfl)
    | (apply Y_len_m; exact rfl; exact (by first | exact et_nodes | exact et_ints | exact et_nodess | exact et_by))
    | (apply Y_len_d; exact rfl; exact (by first | exact et_nodes | exact et_ints | exact et_nodess | exact et_by))
    | (apply Y_lss; exact rfl; exact rfl)
    | (apply Y_leq; exact rfl; exact rfl)
    | (apply Y_gtr; exact rfl; exact rfl)
    | (apply Y_geq; exact rfl; exact rfl)
    | (apply Y_eql; exact rfl; exact rfl)
    | (apply Y_neq; exact rfl; exact rfl)
    | (apply Y_add; exact rfl; exact rfl)
    | (apply Y_sub; exact rfl; exact rfl)
    | (apply Y_mul; exact rfl; exact rfl)
    | (apply Y_not; exact rfl)
    | (apply Y_pick_t; exact rfl; exact rfl)
    | (apply Y_pick_f; exact rfl; exact rfl)
    | (apply Y_extract; exact rfl; exact rfl)
    | (apply Y_max; exact rfl; exact rfl)
    | (apply Y_move_nil; exact rfl)
    | (apply Y_assign_nil; exact rfl)
    | (apply Y_move_buf; exact rfl)
    | (apply Y_assign_buf; exact rfl)
    | (apply Y_len_buf; exact rfl; exact (by first | exact et_nodes | exact et_ints | exact et_nodess | exact et_by))
    | (apply Y_len_nil; exact rfl; exact (by first | exact et_nodes | exact et_ints | exact et_nodess | exact et_by))
    | (apply Y_move_ptr; exact rfl)
    | (apply Y_assign_ptr; exact rfl)
    | (apply Y_move_clo; exact rfl)
    | (apply Y_assign_clo; exact rfl)
    | (apply Y_field_p; exact rfl; exact (by first | exact fo_0 | exact fo_1 | exact fo_2 | exact fo_3 | exact pf_0 | exact pf_1 | exact pf_2 | exact bf_0 | exact bf_1))
    | (apply Y_load_p; exact rfl; exact (by first | exact tc_int | exact tc_nodes | exact tc_node | exact tc_ints | exact tc_kind | exact tc_i64 | exact tc_str | exact tc_bool | exact tc_ad | exact tc_by | exact tc_cx); exact rfl; exact rfl)
    | (apply Y_load_pa; exact rfl; exact (by first | exact tc_int | exact tc_nodes | exact tc_node | exact tc_ints | exact tc_kind | exact tc_i64 | exact tc_str | exact tc_bool | exact tc_ad | exact tc_by | exact tc_cx); exact rfl; exact rfl; exact rfl)
    | (apply Y_sl; (first | exact Co_dd rfl | exact Co_bb rfl rfl rfl | exact Co_nn rfl); exact (by first | exact es_nodes | exact es_ints | exact es_nodess | exact es_by); exact rfl; exact rfl; exact fun _ => rfl)
    | (apply Y_sl_l; (first | exact Co_dd rfl | exact Co_bb rfl rfl rfl | exact Co_nn rfl); exact (by first | exact es_nodes | exact es_ints | exact es_nodess | exact es_by); exact rfl; exact fun _ => rfl)
    | (apply Y_sl_h; (first | exact Co_dd rfl | exact Co_bb rfl rfl rfl | exact Co_nn rfl); exact (by first | exact es_nodes | exact es_ints | exact es_nodess | exact es_by); exact rfl; exact fun _ => rfl)
    | (apply Y_lit0; exact (by first | exact ety_nodes | exact ety_ints | exact ety_nodess | exact ety_by); exact (by first | exact es_nodes | exact es_ints | exact es_nodess | exact es_by); exact (by first | exact zs_node | exact zs_int | exact zs_nodes | exact zs_u8); exact rfl)
    | (apply Y_lit1; exact (by first | exact ety_nodes | exact ety_ints | exact ety_nodess | exact ety_by); exact (by first | exact es_nodes | exact es_ints | exact es_nodess | exact es_by); exact (by first | exact zs_node | exact zs_int | exact zs_nodes | exact zs_u8); exact rfl; exact rfl; (first | exact CoL_d rfl CoL_nil | exact CoL_b rfl rfl rfl CoL_nil | exact CoL_n rfl CoL_nil); exact rfl)
    | (apply Y_lit2; exact (by first | exact ety_nodes | exact ety_ints | exact ety_nodess | exact ety_by); exact (by first | exact es_nodes | exact es_ints | exact es_nodess | exact es_by); exact (by first | exact zs_node | exact zs_int | exact zs_nodes | exact zs_u8); exact rfl; exact rfl; (first | exact CoL_d rfl (CoL_d rfl CoL_nil) | exact CoL_b rfl rfl rfl (CoL_b rfl rfl rfl CoL_nil)); exact rfl)
    | (apply Y_lit3; exact (by first | exact ety_nodes | exact ety_ints | exact ety_nodess | exact ety_by); exact (by first | exact es_nodes | exact es_ints | exact es_nodess | exact es_by); exact (by first | exact zs_node | exact zs_int | exact zs_nodes | exact zs_u8); exact rfl; exact rfl; (exact CoL_d rfl (CoL_d rfl (CoL_d rfl CoL_nil))); exact rfl)
    | (apply Y_lit4; exact (by first | exact ety_nodes | exact ety_ints | exact ety_nodess | exact ety_by); exact (by first | exact es_nodes | exact es_ints | exact es_nodess | exact es_by); exact (by first | exact zs_node | exact zs_int | exact zs_nodes | exact zs_u8); exact rfl; exact rfl; (exact CoL_d rfl (CoL_d rfl (CoL_d rfl (CoL_d rfl CoL_nil)))); exact rfl)
    | (apply Y_mkf; exact rfl)
    | (apply w1; exact rfl; exact rfl)
    | (apply k1 (hd := rfl); exact rfl; exact rfl)
    | (apply k0 (hd := rfl); exact rfl; exact rfl)
    | (apply gD; exact rfl; exact rfl; (intro hb); rotate_left; (intro hb); rotate_right)
    | (apply gN; exact rfl; exact rfl; (intro hb); rotate_left; (intro hb); rotate_right)
    | (apply g1; exact rfl; exact rfl; (intro hb); rotate_left; (intro hb); rotate_right)
    | (refine w0' ?_)
    | (apply aStore; exact rfl; exact rfl; exact rfl; exact (by first | exact tc_int | exact tc_nodes | exact tc_node | exact tc_ints | exact tc_kind | exact tc_i64 | exact tc_str | exact tc_bool | exact tc_ad | exact tc_by | exact tc_cx); exact rfl; exact rfl; exact rfl; exact rfl)
    | (apply awp_condD; exact rfl; (intro hb); rotate_left; (intro hb); rotate_right)
    | (apply awp_condN; exact rfl; (intro hb); rotate_left; (intro hb); rotate_right)
    | (apply awp_condT; exact rfl)
    | (apply awp_condF; exact rfl)
    | (apply awp_cond; exact rfl; (intro hb); rotate_left; (intro hb); rotate_right)
    | refine awp_block ?_
    | refine awp_skip ?_
    | refine awp_ret ?_
    | refine awp_exit ?_
    | refine awp_label ?_
    | refine awp_goto ?_
    | refine awp_draw (by kernel_rfl) (by kernel_rfl) ?_
    | refine en_r ?_
    | refine en_e ?_
    | refine eb_n ?_
    | refine eb_r ?_
    | refine eb_e ?_
    | refine eb_o rfl ?_
    | refine en_g ?_
    | refine eb_g ?_
    | refine ej_n ?_
    | refine ej_r ?_
    | refine ej_e ?_
    | refine ej_g ?_
    | refine rpost_ret ?_
    | (apply res1; exact rfl)
    | (apply res1n; exact rfl)
    | (apply res1b; exact rfl; exact rfl; (first | exact rfl | (simp; done)))
    | (apply res2; exact rfl; exact rfl)
    | (apply res2n; exact rfl; exact rfl)
    | (apply res2b; exact rfl; exact rfl; (first | exact rfl | (simp; done)); exact rfl)
    | exact CoL_nil
    | refine CoL_d rfl ?_
    | refine CoL_b rfl rfl rfl ?_
    | refine CoL_n rfl ?_
    | refine CoL_v rfl ?_
  all_goals exact mpost_nrm ⟨rfl, Fits_mk Le_nil (Pre_cons rfl rfl (Pre_cons rfl rfl Pre_nil)) rfl rfl⟩

theorem fits_ok (p : Pen) (w n : Nat) (hn : p.col + n ≤ 1000000000) (hw : w ≤ 1000000000) : QCall Try.prog 37 [.ptr 0 0, .d (i64 n)] [penOb p w, rowOb p] (bl (decide (p.col + n ≤ w))) := by
  refine qcall_of Try.func37 rfl Try.ntmps37 Try.results37 rfl ?_
  intro wb St0
  repeat' first
    | refine en_n ?_
    | refine awp_seq ?_
    | refine awp_region ?_
    | refine alex_nil ?_
    | refine w0 ?_
    | (apply Y_nilc_p; exact rfl)
    | (refine Y_real (a := p.col) (b := p.row) rfl)
    | (refine Y_i2f (n := n) rfl si_int up_fl)
    | (refine Y_i2f (n := w) rfl si_int up_fl)
    | (refine Y_fadd (a := p.col) (b := n) rfl rfl (by omega))
    | (refine Y_fleq (a := p.col + n) (b := w) rfl rfl (by omega) (by omega))
    | (apply aJ (hd := rfl); (first | exact Co_dd rfl | exact Co_bb rfl rfl rfl | exact Co_nn rfl); exact rfl; exact (by first | exact es_nodes | exact es_ints | exact es_nodess | exact es_by); assumption; omega; exact fun _ => rfl)
    | (apply aI (hd := rfl); (first | exact Co_dd rfl | exact Co_bb rfl rfl rfl | exact Co_nn rfl); exact rfl; exact (by first | exact es_nodes | exact es_ints | exact es_nodess | exact es_by); exact fun _ => rfl; rotate_left; intro v hv; rotate_right)
    | (apply aApp (hd := rfl) (hro := rfl); exact rfl; exact rfl; (first | exact Co_dd rfl | exact Co_bb rfl rfl rfl | exact Co_nn rfl); (first | exact rfl | (simp; done)); exact rfl; exact (by first | exact ety_nodes | exact ety_ints | exact ety_nodess | exact ety_by); exact (by first | exact es_nodes | exact es_ints | exact es_nodess | exact es_by); exact (by first | exact zl_node | exact zl_int | exact zl_nodes | exact zl_u8); exact (by first | exact by_nodes | exact by_ints | exact by_nodess | exact by_by); (first | exact sz_map (fun _ => rfl) | exact sz_lit rfl))
    | (apply aBox (hd := rfl) (hro := rfl); exact rfl; exact rfl)
    | (apply aAlloc (hd := rfl) (hro := rfl); exact (by first | exact zo_node | exact zo_int))
    | apply ay (hd := rfl)
    | (apply Y_move_d; exact rfl)
    | (apply Y_assign_d; exact rfl)
    | (apply Y_field_r; exact rfl; exact (by first | exact fo_0 | exact fo_1 | exact fo_2 | exact fo_3 | exact pf_0 | exact pf_1 | exact pf_2 | exact bf_0 | exact bf_1))
    | (apply Y_load_r1; exact rfl; exact (by first | exact tc_int | exact tc_nodes | exact tc_node | exact tc_ints | exact tc_kind | exact tc_i64 | exact tc_str | exact tc_bool | exact tc_ad | exact tc_by | exact tc_cx))
    | (apply Y_load_r; exact rfl; exact (by first | exact tc_int | exact tc_nodes | exact tc_node | exact tc_ints | exact tc_kind | exact tc_i64 | exact tc_str | exact tc_bool | exact tc_ad | exact tc_by | exact tc_cx); exact rfl)
    | (apply Y_len_m; exact rfl; exact (by first | exact et_nodes | exact et_ints | exact et_nodess | exact et_by))
    | (apply Y_len_d; exact rfl; exact (by first | exact et_nodes | exact et_ints | exact et_nodess | exact et_by))
    | (apply Y_lss; exact rfl; exact rfl)
    | (apply Y_leq; exact rfl; exact rfl)
    | (apply Y_gtr; exact rfl; exact rfl)
    | (apply Y_geq; exact rfl; exact rfl)
    | (apply Y_eql; exact rfl; exact rfl)
    | (apply Y_neq; exact rfl; exact rfl)
    | (apply Y_add; exact rfl; exact rfl)
    | (apply Y_sub; exact rfl; exact rfl)
    | (apply Y_mul; exact rfl; exact rfl)
    | (apply Y_not; exact rfl)
    | (apply Y_pick_t; exact rfl; exact rfl)
    | (apply Y_pick_f; exact rfl; exact rfl)
    | (apply Y_extract; exact rfl; exact rfl)
    | (apply Y_max; exact rfl; exact rfl)
    | (apply Y_move_nil; exact rfl)
    | (apply Y_assign_nil; exact rfl)
    | (apply Y_move_buf; exact rfl)
    | (apply Y_assign_buf; exact rfl)
    | (apply Y_len_buf; exact rfl; exact (by first | exact et_nodes | exact et_ints | exact et_nodess | exact et_by))
    | (apply Y_len_nil; exact rfl; exact (by first | exact et_nodes | exact et_ints | exact et_nodess | exact et_by))
    | (apply Y_move_ptr; exact rfl)
    | (apply Y_assign_ptr; exact rfl)
    | (apply Y_move_clo; exact rfl)
    | (apply Y_assign_clo; exact rfl)
    | (apply Y_field_p; exact rfl; exact (by first | exact fo_0 | exact fo_1 | exact fo_2 | exact fo_3 | exact pf_0 | exact pf_1 | exact pf_2 | exact bf_0 | exact bf_1))
    | (apply Y_load_p; exact rfl; exact (by first | exact tc_int | exact tc_nodes | exact tc_node | exact tc_ints | exact tc_kind | exact tc_i64 | exact tc_str | exact tc_bool | exact tc_ad | exact tc_by | exact tc_cx); exact rfl; exact rfl)
    | (apply Y_load_pa; exact rfl; exact (by first | exact tc_int | exact tc_nodes | exact tc_node | exact tc_ints | exact tc_kind | exact tc_i64 | exact tc_str | exact tc_bool | exact tc_ad | exact tc_by | exact tc_cx); exact rfl; exact rfl; exact rfl)
    | (apply Y_sl; (first | exact Co_dd rfl | exact Co_bb rfl rfl rfl | exact Co_nn rfl); exact (by first | exact es_nodes | exact es_ints | exact es_nodess | exact es_by); exact rfl; exact rfl; exact fun _ => rfl)
    | (apply Y_sl_l; (first | exact Co_dd rfl | exact Co_bb rfl rfl rfl | exact Co_nn rfl); exact (by first | exact es_nodes | exact es_ints | exact es_nodess | exact es_by); exact rfl; exact fun _ => rfl)
    | (apply Y_sl_h; (first | exact Co_dd rfl | exact Co_bb rfl rfl rfl | exact Co_nn rfl); exact (by first | exact es_nodes | exact es_ints | exact es_nodess | exact es_by); exact rfl; exact fun _ => rfl)
    | (apply Y_lit0; exact (by first | exact ety_nodes | exact ety_ints | exact ety_nodess | exact ety_by); exact (by first | exact es_nodes | exact es_ints | exact es_nodess | exact es_by); exact (by first | exact zs_node | exact zs_int | exact zs_nodes | exact zs_u8); exact rfl)
    | (apply Y_lit1; exact (by first | exact ety_nodes | exact ety_ints | exact ety_nodess | exact ety_by); exact (by first | exact es_nodes | exact es_ints | exact es_nodess | exact es_by); exact (by first | exact zs_node | exact zs_int | exact zs_nodes | exact zs_u8); exact rfl; exact rfl; (first | exact CoL_d rfl CoL_nil | exact CoL_b rfl rfl rfl CoL_nil | exact CoL_n rfl CoL_nil); exact rfl)
    | (apply Y_lit2; exact (by first | exact ety_nodes | exact ety_ints | exact ety_nodess | exact ety_by); exact (by first | exact es_nodes | exact es_ints | exact es_nodess | exact es_by); exact (by first | exact zs_node | exact zs_int | exact zs_nodes | exact zs_u8); exact rfl; exact rfl; (first | exact CoL_d rfl (CoL_d rfl CoL_nil) | exact CoL_b rfl rfl rfl (CoL_b rfl rfl rfl CoL_nil)); exact rfl)
    | (apply Y_lit3; exact (by first | exact ety_nodes | exact ety_ints | exact ety_nodess | exact ety_by); exact (by first | exact es_nodes | exact es_ints | exact es_nodess | exact es_by); exact (by first | exact zs_node | exact zs_int | exact zs_nodes | exact zs_u8); exact rfl; exact rfl; (exact CoL_d rfl (CoL_d rfl (CoL_d rfl CoL_nil))); exact rfl)
    | (apply Y_lit4; exact (by first | exact ety_nodes | exact ety_ints | exact ety_nodess | exact ety_by); exact (by first | exact es_nodes | exact es_ints | exact es_nodess | exact es_by); exact (by first | exact zs_node | exact zs_int | exact zs_nodes | exact zs_u8); exact rfl; exact rfl; (exact CoL_d rfl (CoL_d rfl (CoL_d rfl (CoL_d rfl CoL_nil)))); exact rfl)
    | (apply Y_mkf; exact rfl)
    | (apply w1; exact rfl; exact rfl)
    | (apply k1 (hd := rfl); exact rfl; exact rfl)
    | (apply k0 (hd := rfl); exact rfl; exact rfl)
    | (apply gD; exact rfl; exact rfl; (intro hb); rotate_left; (intro hb); rotate_right)
    | (apply gN; exact rfl; exact rfl; (intro hb); rotate_left; (intro hb); rotate_right)
    | (apply g1; exact rfl; exact rfl; (intro hb); rotate_left; (intro hb); rotate_right)
    | (refine w0' ?_)
    | (apply aStore; exact rfl; exact rfl; exact rfl; exact (by first | exact tc_int | exact tc_nodes | exact tc_node | exact tc_ints | exact tc_kind | exact tc_i64 | exact tc_str | exact tc_bool | exact tc_ad | exact tc_by | exact tc_cx); exact rfl; exact rfl; exact rfl; exact rfl)
    | (apply awp_condD; exact rfl; (intro hb); rotate_left; (intro hb); rotate_right)
    | (apply awp_condN; exact rfl; (intro hb); rotate_left; (intro hb); rotate_right)
    | (apply awp_condT; exact rfl)
    | (apply awp_condF; exact rfl)
    | (apply awp_cond; exact rfl; (intro hb); rotate_left; (intro hb); rotate_right)
    | refine awp_block ?_
    | refine awp_skip ?_
    | refine awp_ret ?_
    | refine awp_exit ?_
    | refine awp_label ?_
    | refine awp_goto ?_
    | refine awp_draw (by kernel_rfl) (by kernel_rfl) ?_
    | refine en_r ?_
    | refine en_e ?_
    | refine eb_n ?_
    | refine eb_r ?_
    | refine eb_e ?_
    | refine eb_o rfl ?_
    | refine en_g ?_
    | refine eb_g ?_
    | refine ej_n ?_
    | refine ej_r ?_
    | refine ej_e ?_
    | refine ej_g ?_
    | refine rpost_ret ?_
    | (apply res1; exact rfl)
    | (apply res1n; exact rfl)
    | (apply res1b; exact rfl; exact rfl; (first | exact rfl | (simp; done)))
    | (apply res2; exact rfl; exact rfl)
    | (apply res2n; exact rfl; exact rfl)
    | (apply res2b; exact rfl; exact rfl; (first | exact rfl | (simp; done)); exact rfl)
    | exact CoL_nil
    | refine CoL_d rfl ?_
    | refine CoL_b rfl rfl rfl ?_
    | refine CoL_n rfl ?_
    | refine CoL_v rfl ?_
  rfl

theorem String_ok (p : Pen) (w : Int) : MCall Try.prog 26 [.ptr 0 0] [penOb p w, rowOb p] (.d (str p.out)) [penOb p w, .gone] := by
  obtain ⟨u, out, a, b⟩ := p
  cases out with
  | nil =>
    cases u <;> refine mcall_of Try.func26 rfl Try.ntmps26 Try.results26 rfl rfl rfl ?_
    all_goals intro wb St0 X fx
    all_goals skip
    repeat' first
      | refine en_n ?_
      | refine awp_seq ?_
      | refine awp_region ?_
      | refine alex_nil ?_
      | refine w0 ?_
      | (apply Y_nilc_p; exact rfl)
      | (refine Y_sdata0 (id := 1) (n := 0) rfl rfl rfl up_pb)
      | (refine Y_ustr0p rfl rfl)
      | (apply aJ (hd := rfl); (first | exact Co_dd rfl | exact Co_bb rfl rfl rfl | exact Co_nn rfl); exact rfl; exact (by first | exact es_nodes | exact es_ints | exact es_nodess | exact es_by); assumption; omega; exact fun _ => rfl)
      | (apply aI (hd := rfl); (first | exact Co_dd rfl | exact Co_bb rfl rfl rfl | exact Co_nn rfl); exact rfl; exact (by first | exact es_nodes | exact es_ints | exact es_nodess | exact es_by); exact fun _ => rfl; rotate_left; intro v hv; rotate_right)
      | (apply aApp (hd := rfl) (hro := rfl); exact rfl; exact rfl; (first | exact Co_dd rfl | exact Co_bb rfl rfl rfl | exact Co_nn rfl); (first | exact rfl | (simp; done)); exact rfl; exact (by first | exact ety_nodes | exact ety_ints | exact ety_nodess | exact ety_by); exact (by first | exact es_nodes | exact es_ints | exact es_nodess | exact es_by); exact (by first | exact zl_node | exact zl_int | exact zl_nodes | exact zl_u8); exact (by first | exact by_nodes | exact by_ints | exact by_nodess | exact by_by); (first | exact sz_map (fun _ => rfl) | exact sz_lit rfl))
      | (apply aBox (hd := rfl) (hro := rfl); exact rfl; exact rfl)
      | (apply aAlloc (hd := rfl) (hro := rfl); exact (by first | exact zo_node | exact zo_int))
      | apply ay (hd := rfl)
      | (apply Y_move_d; exact rfl)
      | (apply Y_assign_d; exact rfl)
      | (apply Y_field_r; exact rfl; exact (by first | exact fo_0 | exact fo_1 | exact fo_2 | exact fo_3 | exact pf_0 | exact pf_1 | exact pf_2 | exact bf_0 | exact bf_1))
      | (apply Y_load_r1; exact rfl; exact (by first | exact tc_int | exact tc_nodes | exact tc_node | exact tc_ints | exact tc_kind | exact tc_i64 | exact tc_str | exact tc_bool | exact tc_ad | exact tc_by | exact tc_cx))
      | (apply Y_load_r; exact rfl; exact (by first | exact tc_int | exact tc_nodes | exact tc_node | exact tc_ints | exact tc_kind | exact tc_i64 | exact tc_str | exact tc_bool | exact tc_ad | exact tc_by | exact tc_cx); exact rfl)
      | (apply Y_len_m; exact rfl; exact (by first | exact et_nodes | exact et_ints | exact et_nodess | exact et_by))
      | (apply Y_len_d; exact rfl; exact (by first | exact et_nodes | exact et_ints | exact et_nodess | exact et_by))
      | (apply Y_lss; exact rfl; exact rfl)
      | (apply Y_leq; exact rfl; exact rfl)
      | (apply Y_gtr; exact rfl; exact rfl)
      | (apply Y_geq; exact rfl; exact rfl)
      | (apply Y_eql; exact rfl; exact rfl)
      | (apply Y_neq; exact rfl; exact rfl)
      | (apply Y_add; exact rfl; exact rfl)
      | (apply Y_sub; exact rfl; exact rfl)
      | (apply Y_mul; exact rfl; exact rfl)
      | (apply Y_not; exact rfl)
      | (apply Y_pick_t; exact rfl; exact rfl)
      | (apply Y_pick_f; exact rfl; exact rfl)
      | (apply Y_extract; exact rfl; exact rfl)
      | (apply Y_max; exact rfl; exact rfl)
      | (apply Y_move_nil; exact rfl)
      | (apply Y_assign_nil; exact rfl)
      | (apply Y_move_buf; exact rfl)
      | (apply Y_assign_buf; exact rfl)
      | (apply Y_len_buf; exact rfl; exact (by first | exact et_nodes | exact et_ints | exact et_nodess | exact et_by))
      | (apply Y_len_nil; exact rfl; exact (by first | exact et_nodes | exact et_ints | exact et_nodess | exact et_by))
      | (apply Y_move_ptr; exact rfl)
      | (apply Y_assign_ptr; exact rfl)
      | (apply Y_move_clo; exact rfl)
      | (apply Y_assign_clo; exact rfl)
      | (apply Y_field_p; exact rfl; exact (by first | exact fo_0 | exact fo_1 | exact fo_2 | exact fo_3 | exact pf_0 | exact pf_1 | exact pf_2 | exact bf_0 | exact bf_1))
      | (apply Y_load_p; exact rfl; exact (by first | exact tc_int | exact tc_nodes | exact tc_node | exact tc_ints | exact tc_kind | exact tc_i64 | exact tc_str | exact tc_bool | exact tc_ad | exact tc_by | exact tc_cx); exact rfl; exact rfl)
      | (apply Y_load_pa; exact rfl; exact (by first | exact tc_int | exact tc_nodes | exact tc_node | exact tc_ints | exact tc_kind | exact tc_i64 | exact tc_str | exact tc_bool | exact tc_ad | exact tc_by | exact tc_cx); exact rfl; exact rfl; exact rfl)
      | (apply Y_sl; (first | exact Co_dd rfl | exact Co_bb rfl rfl rfl | exact Co_nn rfl); exact (by first | exact es_nodes | exact es_ints | exact es_nodess | exact es_by); exact rfl; exact rfl; exact fun _ => rfl)
      | (apply Y_sl_l; (first | exact Co_dd rfl | exact Co_bb rfl rfl rfl | exact Co_nn rfl); exact (by first | exact es_nodes | exact es_ints | exact es_nodess | exact es_by); exact rfl; exact fun _ => rfl)
      | (apply Y_sl_h; (first | exact Co_dd rfl | exact Co_bb rfl rfl rfl | exact Co_nn rfl); exact (by first | exact es_nodes | exact es_ints | exact es_nodess | exact es_by); exact rfl; exact fun _ => rfl)
      | (apply Y_lit0; exact (by first | exact ety_nodes | exact ety_ints | exact ety_nodess | exact ety_by); exact (by first | exact es_nodes | exact es_ints | exact es_nodess | exact es_by); exact (by first | exact zs_node | exact zs_int | exact zs_nodes | exact zs_u8); exact rfl)
      | (apply Y_lit1; exact (by first | exact ety_nodes | exact ety_ints | exact ety_nodess | exact ety_by); exact (by first | exact es_nodes | exact es_ints | exact es_nodess | exact es_by); exact (by first | exact zs_node | exact zs_int | exact zs_nodes | exact zs_u8); exact rfl; exact rfl; (first | exact CoL_d rfl CoL_nil | exact CoL_b rfl rfl rfl CoL_nil | exact CoL_n rfl CoL_nil); exact rfl)
      | (apply Y_lit2; exact (by first | exact ety_nodes | exact ety_ints | exact ety_nodess | exact ety_by); exact (by first | exact es_nodes | exact es_ints | exact es_nodess | exact es_by); exact (by first | exact zs_node | exact zs_int | exact zs_nodes | exact zs_u8); exact rfl; exact rfl; (first | exact CoL_d rfl (CoL_d rfl CoL_nil) | exact CoL_b rfl rfl rfl (CoL_b rfl rfl rfl CoL_nil)); exact rfl)
      | (apply Y_lit3; exact (by first | exact ety_nodes | exact ety_ints | exact ety_nodess | exact ety_by); exact (by first | exact es_nodes | exact es_ints | exact es_nodess | exact es_by); exact (by first | exact zs_node | exact zs_int | exact zs_nodes | exact zs_u8); exact rfl; exact rfl; (exact CoL_d rfl (CoL_d rfl (CoL_d rfl CoL_nil))); exact rfl)
      | (apply Y_lit4; exact (by first | exact ety_nodes | exact ety_ints | exact ety_nodess | exact ety_by); exact (by first | exact es_nodes | exact es_ints | exact es_nodess | exact es_by); exact (by first | exact zs_node | exact zs_int | exact zs_nodes | exact zs_u8); exact rfl; exact rfl; (exact CoL_d rfl (CoL_d rfl (CoL_d rfl (CoL_d rfl CoL_nil)))); exact rfl)
      | (apply Y_mkf; exact rfl)
      | (apply w1; exact rfl; exact rfl)
      | (apply k1 (hd := rfl); exact rfl; exact rfl)
      | (apply k0 (hd := rfl); exact rfl; exact rfl)
      | (apply gD; exact rfl; exact rfl; (intro hb); rotate_left; (intro hb); rotate_right)
      | (apply gN; exact rfl; exact rfl; (intro hb); rotate_left; (intro hb); rotate_right)
      | (apply g1; exact rfl; exact rfl; (intro hb); rotate_left; (intro hb); rotate_right)
      | (refine w0' ?_)
      | (apply aStore; exact rfl; exact rfl; exact rfl; exact (by first | exact tc_int | exact tc_nodes | exact tc_node | exact tc_ints | exact tc_kind | exact tc_i64 | exact tc_str | exact tc_bool | exact tc_ad | exact tc_by | exact tc_cx); exact rfl; exact rfl; exact rfl; exact rfl)
      | (apply awp_condD; exact rfl; (intro hb); rotate_left; (intro hb); rotate_right)
      | (apply awp_condN; exact rfl; (intro hb); rotate_left; (intro hb); rotate_right)
      | (apply awp_condT; exact rfl)
      | (apply awp_condF; exact rfl)
      | (apply awp_cond; exact rfl; (intro hb); rotate_left; (intro hb); rotate_right)
      | refine awp_block ?_
      | refine awp_skip ?_
      | refine awp_ret ?_
      | refine awp_exit ?_
      | refine awp_label ?_
      | refine awp_goto ?_
      | refine awp_draw (by kernel_rfl) (by kernel_rfl) ?_
      | refine en_r ?_
      | refine en_e ?_
      | refine eb_n ?_
      | refine eb_r ?_
      | refine eb_e ?_
      | refine eb_o rfl ?_
      | refine en_g ?_
      | refine eb_g ?_
      | refine ej_n ?_
      | refine ej_r ?_
      | refine ej_e ?_
      | refine ej_g ?_
      | refine rpost_ret ?_
      | (apply res1; exact rfl)
      | (apply res1n; exact rfl)
      | (apply res1b; exact rfl; exact rfl; (first | exact rfl | (simp; done)))
      | (apply res2; exact rfl; exact rfl)
      | (apply res2n; exact rfl; exact rfl)
      | (apply res2b; exact rfl; exact rfl; (first | exact rfl | (simp; done)); exact rfl)
      | exact CoL_nil
      | refine CoL_d rfl ?_
      | refine CoL_b rfl rfl rfl ?_
      | refine CoL_n rfl ?_
      | refine CoL_v rfl ?_
    all_goals exact mpost_ret (Fits_mk (Le_cons rfl Le_nil) (Pre_cons rfl rfl (Pre_gone rfl Pre_nil)) rfl rfl)
  | cons c l =>
    cases u <;> refine mcall_of Try.func26 rfl Try.ntmps26 Try.results26 rfl rfl rfl ?_
    all_goals intro wb St0 X fx
    all_goals skip
    repeat' first
      | refine en_n ?_
      | refine awp_seq ?_
      | refine awp_region ?_
      | refine alex_nil ?_
      | refine w0 ?_
      | (apply Y_nilc_p; exact rfl)
      | (refine Y_sdata1 (id := 1) (n := (c :: l).length) (l := c :: l) rfl rfl rfl up_pb (by simp))
      | (refine a_bar (by kernel_rfl) ?_; refine aUStr (id := 1) (l := c :: l) rfl rfl rfl (by simp) up_pb (by kernel_rfl) rfl rfl ?_)
      | (apply aJ (hd := rfl); (first | exact Co_dd rfl | exact Co_bb rfl rfl rfl | exact Co_nn rfl); exact rfl; exact (by first | exact es_nodes | exact es_ints | exact es_nodess | exact es_by); assumption; omega; exact fun _ => rfl)
      | (apply aI (hd := rfl); (first | exact Co_dd rfl | exact Co_bb rfl rfl rfl | exact Co_nn rfl); exact rfl; exact (by first | exact es_nodes | exact es_ints | exact es_nodess | exact es_by); exact fun _ => rfl; rotate_left; intro v hv; rotate_right)
      | (apply aApp (hd := rfl) (hro := rfl); exact rfl; exact rfl; (first | exact Co_dd rfl | exact Co_bb rfl rfl rfl | exact Co_nn rfl); (first | exact rfl | (simp; done)); exact rfl; exact (by first | exact ety_nodes | exact ety_ints | exact ety_nodess | exact ety_by); exact (by first | exact es_nodes | exact es_ints | exact es_nodess | exact es_by); exact (by first | exact zl_node | exact zl_int | exact zl_nodes | exact zl_u8); exact (by first | exact by_nodes | exact by_ints | exact by_nodess | exact by_by); (first | exact sz_map (fun _ => rfl) | exact sz_lit rfl))
      | (apply aBox (hd := rfl) (hro := rfl); exact rfl; exact rfl)
      | (apply aAlloc (hd := rfl) (hro := rfl); exact (by first | exact zo_node | exact zo_int))
      | apply ay (hd := rfl)
      | (apply Y_move_d; exact rfl)
      | (apply Y_assign_d; exact rfl)
      | (apply Y_field_r; exact rfl; exact (by first | exact fo_0 | exact fo_1 | exact fo_2 | exact fo_3 | exact pf_0 | exact pf_1 | exact pf_2 | exact bf_0 | exact bf_1))
      | (apply Y_load_r1; exact rfl; exact (by first | exact tc_int | exact tc_nodes | exact tc_node | exact tc_ints | exact tc_kind | exact tc_i64 | exact tc_str | exact tc_bool | exact tc_ad | exact tc_by | exact tc_cx))
      | (apply Y_load_r; exact rfl; exact (by first | exact tc_int | exact tc_nodes | exact tc_node | exact tc_ints | exact tc_kind | exact tc_i64 | exact tc_str | exact tc_bool | exact tc_ad | exact tc_by | exact tc_cx); exact rfl)
      | (apply Y_len_m; exact rfl; exact (by first | exact et_nodes | exact et_ints | exact et_nodess | exact et_by))
      | (apply Y_len_d; exact rfl; exact (by first | exact et_nodes | exact et_ints | exact et_nodess | exact et_by))
      | (apply Y_lss; exact rfl; exact rfl)
      | (apply Y_leq; exact rfl; exact rfl)
      | (apply Y_gtr; exact rfl; exact rfl)
      | (apply Y_geq; exact rfl; exact rfl)
      | (apply Y_eql; exact rfl; exact rfl)
      | (apply Y_neq; exact rfl; exact rfl)
      | (apply Y_add; exact rfl; exact rfl)
      | (apply Y_sub; exact rfl; exact rfl)
      | (apply Y_mul; exact rfl; exact rfl)
      | (apply Y_not; exact rfl)
      | (apply Y_pick_t; exact rfl; exact rfl)
      | (apply Y_pick_f; exact rfl; exact rfl)
      | (apply Y_extract; exact rfl; exact rfl)
      | (apply Y_max; exact rfl; exact rfl)
      | (apply Y_move_nil; exact rfl)
      | (apply Y_assign_nil; exact rfl)
      | (apply Y_move_buf; exact rfl)
      | (apply Y_assign_buf; exact rfl)
      | (apply Y_len_buf; exact rfl; exact (by first | exact et_nodes | exact et_ints | exact et_nodess | exact et_by))
      | (apply Y_len_nil; exact rfl; exact (by first | exact et_nodes | exact et_ints | exact et_nodess | exact et_by))
      | (apply Y_move_ptr; exact rfl)
      | (apply Y_assign_ptr; exact rfl)
      | (apply Y_move_clo; exact rfl)
      | (apply Y_assign_clo; exact rfl)
      | (apply Y_field_p; exact rfl; exact (by first | exact fo_0 | exact fo_1 | exact fo_2 | exact fo_3 | exact pf_0 | exact pf_1 | exact pf_2 | exact bf_0 | exact bf_1))
      | (apply Y_load_p; exact rfl; exact (by first | exact tc_int | exact tc_nodes | exact tc_node | exact tc_ints | exact tc_kind | exact tc_i64 | exact tc_str | exact tc_bool | exact tc_ad | exact tc_by | exact tc_cx); exact rfl; exact rfl)
      | (apply Y_load_pa; exact rfl; exact (by first | exact tc_int | exact tc_nodes | exact tc_node | exact tc_ints | exact tc_kind | exact tc_i64 | exact tc_str | exact tc_bool | exact tc_ad | exact tc_by | exact tc_cx); exact rfl; exact rfl; exact rfl)
      | (apply Y_sl; (first | exact Co_dd rfl | exact Co_bb rfl rfl rfl | exact Co_nn rfl); exact (by first | exact es_nodes | exact es_ints | exact es_nodess | exact es_by); exact rfl; exact rfl; exact fun _ => rfl)
      | (apply Y_sl_l; (first | exact Co_dd rfl | exact Co_bb rfl rfl rfl | exact Co_nn rfl); exact (by first | exact es_nodes | exact es_ints | exact es_nodess | exact es_by); exact rfl; exact fun _ => rfl)
      | (apply Y_sl_h; (first | exact Co_dd rfl | exact Co_bb rfl rfl rfl | exact Co_nn rfl); exact (by first | exact es_nodes | exact es_ints | exact es_nodess | exact es_by); exact rfl; exact fun _ => rfl)
      | (apply Y_lit0; exact (by first | exact ety_nodes | exact ety_ints | exact ety_nodess | exact ety_by); exact (by first | exact es_nodes | exact es_ints | exact es_nodess | exact es_by); exact (by first | exact zs_node | exact zs_int | exact zs_nodes | exact zs_u8); exact rfl)
      | (apply Y_lit1; exact (by first | exact ety_nodes | exact ety_ints | exact ety_nodess | exact ety_by); exact (by first | exact es_nodes | exact es_ints | exact es_nodess | exact es_by); exact (by first | exact zs_node | exact zs_int | exact zs_nodes | exact zs_u8); exact rfl; exact rfl; (first | exact CoL_d rfl CoL_nil | exact CoL_b rfl rfl rfl CoL_nil | exact CoL_n rfl CoL_nil); exact rfl)
      | (apply Y_lit2; exact (by first | exact ety_nodes | exact ety_ints | exact ety_nodess | exact ety_by); exact (by first | exact es_nodes | exact es_ints | exact es_nodess | exact es_by); exact (by first | exact zs_node | exact zs_int | exact zs_nodes | exact zs_u8); exact rfl; exact rfl; (first | exact CoL_d rfl (CoL_d rfl CoL_nil) | exact CoL_b rfl rfl rfl (CoL_b rfl rfl rfl CoL_nil)); exact rfl)
      | (apply Y_lit3; exact (by first | exact ety_nodes | exact ety_ints | exact ety_nodess | exact ety_by); exact (by first | exact es_nodes | exact es_ints | exact es_nodess | exact es_by); exact (by first | exact zs_node | exact zs_int | exact zs_nodes | exact zs_u8); exact rfl; exact rfl; (exact CoL_d rfl (CoL_d rfl (CoL_d rfl CoL_nil))); exact rfl)
      | (apply Y_lit4; exact (by first | exact ety_nodes | exact ety_ints | exact ety_nodess | exact ety_by); exact (by first | exact es_nodes | exact es_ints | exact es_nodess | exact es_by); exact (by first | exact zs_node | exact zs_int | exact zs_nodes | exact zs_u8); exact rfl; exact rfl; (exact CoL_d rfl (CoL_d rfl (CoL_d rfl (CoL_d rfl CoL_nil)))); exact rfl)
      | (apply Y_mkf; exact rfl)
      | (apply w1; exact rfl; exact rfl)
      | (apply k1 (hd := rfl); exact rfl; exact rfl)
      | (apply k0 (hd := rfl); exact rfl; exact rfl)
      | (apply gD; exact rfl; exact rfl; (intro hb); rotate_left; (intro hb); rotate_right)
      | (apply gN; exact rfl; exact rfl; (intro hb); rotate_left; (intro hb); rotate_right)
      | (apply g1; exact rfl; exact rfl; (intro hb); rotate_left; (intro hb); rotate_right)
      | (refine w0' ?_)
      | (apply aStore; exact rfl; exact rfl; exact rfl; exact (by first | exact tc_int | exact tc_nodes | exact tc_node | exact tc_ints | exact tc_kind | exact tc_i64 | exact tc_str | exact tc_bool | exact tc_ad | exact tc_by | exact tc_cx); exact rfl; exact rfl; exact rfl; exact rfl)
      | (apply awp_condD; exact rfl; (intro hb); rotate_left; (intro hb); rotate_right)
      | (apply awp_condN; exact rfl; (intro hb); rotate_left; (intro hb); rotate_right)
      | (apply awp_condT; exact rfl)
      | (apply awp_condF; exact rfl)
      | (apply awp_cond; exact rfl; (intro hb); rotate_left; (intro hb); rotate_right)
      | refine awp_block ?_
      | refine awp_skip ?_
      | refine awp_ret ?_
      | refine awp_exit ?_
      | refine awp_label ?_
      | refine awp_goto ?_
      | refine awp_draw (by kernel_rfl) (by kernel_rfl) ?_
      | refine en_r ?_
      | refine en_e ?_
      | refine eb_n ?_
      | refine eb_r ?_
      | refine eb_e ?_
      | refine eb_o rfl ?_
      | refine en_g ?_
      | refine eb_g ?_
      | refine ej_n ?_
      | refine ej_r ?_
      | refine ej_e ?_
      | refine ej_g ?_
      | refine rpost_ret ?_
      | (apply res1; exact rfl)
      | (apply res1n; exact rfl)
      | (apply res1b; exact rfl; exact rfl; (first | exact rfl | (simp; done)))
      | (apply res2; exact rfl; exact rfl)
      | (apply res2n; exact rfl; exact rfl)
      | (apply res2b; exact rfl; exact rfl; (first | exact rfl | (simp; done)); exact rfl)
      | exact CoL_nil
      | refine CoL_d rfl ?_
      | refine CoL_b rfl rfl rfl ?_
      | refine CoL_n rfl ?_
      | refine CoL_v rfl ?_
    all_goals exact mpost_ret (Fits_mk (Le_cons rfl Le_nil) (Pre_cons rfl rfl (Pre_cons rfl rfl Pre_nil)) rfl rfl)

end Go.Proofs.Ytcjakkbanlgafaa
/- The layout statements: what lay comes to, and how much it writes. -/
namespace Go.Proofs.Ytcjakkbanlgafaa
open Go.Sx

/-- i trees, one behind another, from a place on -/
def kidsP (f : Nat → Pen → Pen) (L : List Nd) (a : Int) : Nat → Pen → Pen
  | 0, p => p
  | i + 1, p => f (seqE L a i).toNat (kidsP f L a i p)

/-- what stands at a place -/
def layN (L : List Nd) (w : Nat) : Nat → Nat → Nat → Bool → Pen → Pen
  | 0, _, _, _, p => p
  | m + 1, at_, ind, fl, p => match L[at_]? with
    | none => p
    | some n =>
      if n.kind = 41 then kidsP (fun t q => layN L w m t ind fl q) L ((at_ : Int) + 1) n.kids.toNat (p.put n.text)
      else if n.kind = 42 then kidsP (fun t q => layN L w m t ind fl q) L ((at_ : Int) + 1) n.kids.toNat (if fl then p.put [32] else p.feed ind)
      else if n.kind = 43 then kidsP (fun t q => layN L w m t (ind + n.num.toNat) fl q) L ((at_ : Int) + 1) n.kids.toNat p
      else if n.kind = 44 then kidsP (fun t q => layN L w m t ind (fl || decide (p.col + sizeF ((L.take (endF L at_).toNat).drop at_) ≤ w)) q) L ((at_ : Int) + 1) n.kids.toNat p
      else kidsP (fun t q => layN L w m t ind fl q) L ((at_ : Int) + 1) n.kids.toNat p

/-- as much as may stand there behind k nodes -/
def Bd (p : Pen) (k : Nat) : Prop := p.out.length ≤ 200000 * k ∧ p.col ≤ 200000 * k ∧ p.row ≤ k
theorem Bd.mono {p : Pen} {j k : Nat} (h : Bd p j) (hk : j ≤ k) : Bd p k := by
  obtain ⟨h1, h2, h3⟩ := h
  exact ⟨by omega, by omega, by omega⟩

/-- documents of which is spoken -/
structure Doc (L : List Nd) : Prop where
  len : L.length ≤ 4000
  right : ∀ n ∈ L, rightF n = true
  text : ∀ n ∈ L, n.text.length ≤ 1000

theorem right_num {n : Nd} (h : rightF n = true) (hk : n.kind = 43) : 0 ≤ n.num ∧ n.num ≤ 40 := by
  unfold rightF at h
  rw [if_neg (by omega), if_neg (by omega), if_pos hk] at h
  simp only [Bool.and_eq_true, decide_eq_true_eq] at h
  omega

theorem seqE_bd {L : List Nd} {k i : Nat} (h : 0 ≤ seqE L ((k : Int) + 1) i) (hk : k < L.length) : (k : Int) + 1 + i ≤ seqE L ((k : Int) + 1) i ∧ seqE L ((k : Int) + 1) i ≤ L.length := by
  refine ⟨seqE_ge h, ?_⟩
  cases i with
  | zero => simp only [seqE]; omega
  | succ i =>
    have h1 : 0 ≤ seqE L ((k : Int) + 1) i := by
      rcases Int.lt_or_le (seqE L ((k : Int) + 1) i) 0 with h2 | h2
      · have := seqE_neg h2 (i + 1) (by omega); omega
      · exact h2
    rw [seqE_succ h1] at h ⊢
    rcases endF_bd L (seqE L ((k : Int) + 1) i) with h2 | h2 <;> omega

/-- a node that stands: its kids end where it does -/
theorem node_end {L : List Nd} {k : Nat} {n : Nd} (hn : L[k]? = some n) (h : 0 ≤ endF L k) : 0 ≤ n.kids ∧ n.kids ≤ L.length ∧ endF L k = seqE L ((k : Int) + 1) n.kids.toNat ∧ ∀ i, i ≤ n.kids.toNat → 0 ≤ seqE L ((k : Int) + 1) i := by
  have he := endF_rec hn
  have hg : ¬ (n.kids < 0 ∨ n.kids > L.length) := fun h0 => by rw [if_pos h0] at he; omega
  rw [if_neg hg] at he
  refine ⟨by omega, by omega, he, fun i hi => ?_⟩
  rcases Int.lt_or_le (seqE L ((k : Int) + 1) i) 0 with h2 | h2
  · have := seqE_neg h2 _ hi; omega
  · exact h2
theorem node_at {L : List Nd} {k : Nat} (h : 0 ≤ endF L k) : ∃ n, L[k]? = some n := by
  have := endF_bd L k
  exact ⟨L[k]'(by omega), List.getElem?_eq_getElem (by omega)⟩

theorem kidsP_bd {L : List Nd} {f : Nat → Pen → Pen} {k : Nat} {n : Nd} (hn : L[k]? = some n) (h : 0 ≤ endF L k) (hf : ∀ (t : Nat) (q : Pen), k < t → 0 ≤ endF L t → Bd q t → Bd (f t q) (endF L t).toNat) {p : Pen} (hp : Bd p (k + 1)) :
    ∀ i, i ≤ n.kids.toNat → Bd (kidsP f L ((k : Int) + 1) i p) (seqE L ((k : Int) + 1) i).toNat := by
  obtain ⟨_, _, he, hs⟩ := node_end hn h
  have hk := (List.getElem?_eq_some_iff.1 hn).1
  intro i
  induction i with
  | zero => intro _; simp only [kidsP, seqE]; exact hp.mono (by omega)
  | succ i ih =>
    intro hi
    have h1 := hs i (by omega)
    have h2 := hs (i + 1) hi
    have h3 := seqE_bd h1 hk
    have h4 := ih (by omega)
    have h5 := seqE_succ h1
    have h6 : (((seqE L ((k : Int) + 1) i).toNat : Nat) : Int) = seqE L ((k : Int) + 1) i := Int.toNat_of_nonneg h1
    have h7 := hf (seqE L ((k : Int) + 1) i).toNat _ (by omega) (by rw [h6, ← h5]; exact h2) h4
    rw [h6, ← h5] at h7
    exact h7

theorem put_bd {p : Pen} {k : Nat} {s : List UInt8} (h : Bd p k) (hs : s.length ≤ 1000) : Bd (p.put s) (k + 1) := by
  obtain ⟨h1, h2, h3⟩ := h
  refine ⟨?_, ?_, ?_⟩ <;> simp only [Pen.put, List.length_append] <;> omega
theorem feed_bd {p : Pen} {k n : Nat} (h : Bd p k) (hs : n ≤ 160000) : Bd (p.feed n) (k + 1) := by
  obtain ⟨h1, h2, h3⟩ := h
  refine ⟨?_, ?_, ?_⟩ <;> simp only [Pen.feed, List.length_append, List.length_cons, List.length_replicate] <;> omega

theorem layN_bd {L : List Nd} {w : Nat} (hD : Doc L) : ∀ (m at_ ind : Nat) (fl : Bool) (p : Pen), 0 ≤ endF L at_ → ind ≤ 40 * at_ → Bd p at_ → Bd (layN L w m at_ ind fl p) (endF L at_).toNat := by
  intro m
  induction m with
  | zero =>
    intro at_ ind fl p h hi hp
    have := endF_bd L at_
    exact hp.mono (by omega)
  | succ m ih =>
    intro at_ ind fl p h hi hp
    obtain ⟨n, hn⟩ := node_at h
    obtain ⟨k1, k2, k3, k4⟩ := node_end hn h
    have hk := (List.getElem?_eq_some_iff.1 hn).1
    have hlen := hD.len
    have ht := hD.text n (List.mem_of_getElem? hn)
    have hr := hD.right n (List.mem_of_getElem? hn)
    have key : ∀ (ind' : Nat) (fl' : Bool) (q : Pen), ind' ≤ 40 * (at_ + 1) → Bd q (at_ + 1) → Bd (kidsP (fun t q => layN L w m t ind' fl' q) L ((at_ : Int) + 1) n.kids.toNat q) (endF L at_).toNat := by
      intro ind' fl' q h1 h2
      rw [k3]
      exact kidsP_bd hn h (fun t q' h3 h4 h5 => ih t ind' fl' q' h4 (by omega) h5) h2 _ (Nat.le_refl _)
    simp only [layN, hn]
    split
    · exact key _ _ _ (by omega) (put_bd hp ht)
    · split
      · cases fl with
        | true => exact key _ _ _ (by omega) (put_bd hp (by decide))
        | false => exact key _ _ _ (by omega) (feed_bd hp (by omega))
      · split
        · rename_i h43
          have := right_num hr h43
          exact key _ _ _ (by omega) (hp.mono (by omega))
        · split
          · exact key _ _ _ (by omega) (hp.mono (by omega))
          · exact key _ _ _ (by omega) (hp.mono (by omega))
end Go.Proofs.Ytcjakkbanlgafaa
/- The layout statements: plain laws on what lay comes to: behind whatever was written; flat. -/
namespace Go.Proofs.Ytcjakkbanlgafaa
open Go.Sx

/-- behind a text, from a column on -/
def colF (s : List UInt8) (c : Nat) : Nat := s.foldl (fun c b => if b = 10 then 0 else c + 1) c
theorem colF_append (a b : List UInt8) (c : Nat) : colF (a ++ b) c = colF b (colF a c) := by simp [colF]
theorem colF_fine {s : List UInt8} (h : ∀ b ∈ s, b ≠ 10) : ∀ c, colF s c = c + s.length := by
  induction s with
  | nil => intro c; rfl
  | cons b s ih =>
    intro c
    have h1 : b ≠ 10 := h b (by simp)
    have := ih (fun b hb => h b (by simp [hb])) (c + 1)
    show colF s (if b = 10 then 0 else c + 1) = _
    rw [if_neg h1, this, List.length_cons]; omega
theorem colF_feed (n c : Nat) : colF (10 :: List.replicate n 32) c = n := by
  show colF (List.replicate n 32) (if (10 : UInt8) = 10 then 0 else c + 1) = n
  rw [if_pos rfl, colF_fine (fun b hb => by rw [List.eq_of_mem_replicate hb]; decide)]; simp
theorem colF_le (s : List UInt8) : ∀ c, colF s c ≤ c + s.length := by
  induction s with
  | nil => intro c; exact Nat.le_refl _
  | cons b s ih =>
    intro c
    show colF s (if b = 10 then 0 else c + 1) ≤ _
    have := ih (if b = 10 then 0 else c + 1)
    rw [List.length_cons]
    split at this <;> split <;> first | contradiction | omega

theorem right_odd {n : Nd} (h : rightF n = true) : oddF n.text = false := by
  unfold rightF at h
  cases ho : oddF n.text with
  | false => rfl
  | true =>
    exfalso
    rw [ho] at h
    simp at h
theorem text_fine {n : Nd} (h : rightF n = true) : ∀ b ∈ n.text, b ≠ 10 := by
  intro b hb e
  have h1 := right_odd h
  unfold oddF at h1
  have := List.any_eq_false.1 h1 b hb
  subst e
  exact this (by decide)
theorem right_kids {n : Nd} (h : rightF n = true) (hk : n.kind = 41 ∨ n.kind = 42) : n.kids = 0 := by
  unfold rightF at h
  rcases hk with hk | hk
  · rw [if_pos hk] at h; simp only [Bool.and_eq_true, decide_eq_true_eq] at h; omega
  · rw [if_neg (by omega), if_pos hk] at h; simp only [Bool.and_eq_true, decide_eq_true_eq] at h; omega
theorem right_text {n : Nd} (h : rightF n = true) (hk : n.kind ≠ 41) : n.text = [] := by
  cases ht : n.text with
  | nil => rfl
  | cons b s =>
    unfold rightF at h
    rw [if_neg hk] at h
    simp [ht] at h

/-- what is written hangs on the column alone -/
def Shf (f : Pen → Pen) : Prop := ∀ p : Pen, (f p).out = p.out ++ (f ⟨false, [], p.col, 0⟩).out ∧ (f p).col = (f ⟨false, [], p.col, 0⟩).col ∧ (f p).col = colF (f ⟨false, [], p.col, 0⟩).out p.col

theorem kidsP_shf {f : Nat → Pen → Pen} (hf : ∀ t, Shf (f t)) (L : List Nd) (a : Int) : ∀ i, Shf (kidsP f L a i) := by
  intro i
  induction i with
  | zero => intro p; exact ⟨by simp [kidsP], rfl, rfl⟩
  | succ i ih =>
    intro p
    obtain ⟨h1, h2, h3⟩ := ih p
    obtain ⟨g1, g2, g3⟩ := ih ⟨false, [], p.col, 0⟩
    obtain ⟨k1, k2, k3⟩ := hf (seqE L a i).toNat (kidsP f L a i p)
    obtain ⟨l1, l2, l3⟩ := hf (seqE L a i).toNat (kidsP f L a i ⟨false, [], p.col, 0⟩)
    simp only [kidsP]
    refine ⟨?_, ?_, ?_⟩
    · rw [k1, l1, h1, h2, List.append_assoc]
    · rw [k2, l2, h2]
    · simp only at g3; rw [k3, l1, colF_append, h2, ← g3]
theorem shf_comp {f g : Pen → Pen} (hf : Shf f) (hg : Shf g) : Shf (fun p => f (g p)) := by
  intro p
  obtain ⟨h1, h2, h3⟩ := hg p
  obtain ⟨k1, k2, k3⟩ := hf (g p)
  obtain ⟨l1, l2, l3⟩ := hf (g ⟨false, [], p.col, 0⟩)
  refine ⟨?_, ?_, ?_⟩
  · rw [k1, l1, h1, h2, List.append_assoc]
  · rw [k2, l2, h2]
  · rw [k3, l1, colF_append, h2, ← h3, h2]
theorem put_shf {s : List UInt8} (h : ∀ b ∈ s, b ≠ 10) : Shf (fun p => p.put s) := fun p => ⟨by simp [Pen.put], rfl, by simp [Pen.put, colF_fine h]⟩
theorem feed_shf (n : Nat) : Shf (fun p => p.feed n) := fun p => ⟨by simp [Pen.feed], rfl, by simp only [Pen.feed, List.nil_append]; rw [colF_feed]⟩
theorem id_shf : Shf (fun p => p) := fun p => ⟨by simp, rfl, rfl⟩

theorem layN_shf {L : List Nd} {w : Nat} (hr : ∀ n ∈ L, rightF n = true) : ∀ (m at_ ind : Nat) (fl : Bool), Shf (layN L w m at_ ind fl) := by
  intro m
  induction m with
  | zero => intro at_ ind fl; exact id_shf
  | succ m ih =>
    intro at_ ind fl
    cases hn : L[at_]? with
    | none => intro p; simp only [layN, hn]; exact ⟨by simp, trivial, rfl⟩
    | some n =>
      have hrn := hr n (List.mem_of_getElem? hn)
      intro p
      simp only [layN, hn]
      split
      · exact shf_comp (kidsP_shf (fun t => ih t ind fl) L _ _) (put_shf (text_fine hrn)) p
      · split
        · cases fl with
          | true => exact shf_comp (kidsP_shf (fun t => ih t ind true) L _ _) (put_shf (by simp)) p
          | false => exact shf_comp (kidsP_shf (fun t => ih t ind false) L _ _) (feed_shf ind) p
        · split
          · exact kidsP_shf (fun t => ih t _ fl) L _ _ p
          · split
            · exact kidsP_shf (fun t => ih t ind _) L _ _ p
            · exact kidsP_shf (fun t => ih t ind fl) L _ _ p

/-- flat, of what stands at a place -/
def flK (f : Nat → List UInt8) (L : List Nd) (a : Int) : Nat → List UInt8
  | 0 => []
  | i + 1 => flK f L a i ++ f (seqE L a i).toNat
def flN (L : List Nd) : Nat → Nat → List UInt8
  | 0, _ => []
  | m + 1, at_ => match L[at_]? with
    | none => []
    | some n => if n.kind = 41 then n.text else if n.kind = 42 then [32] else flK (flN L m) L ((at_ : Int) + 1) n.kids.toNat

/-- what a step writes, whatever was written before it -/
def Wr (f : Pen → Pen) (s : List UInt8) : Prop := ∀ p : Pen, (f p).out = p.out ++ s
theorem kidsP_wr {f : Nat → Pen → Pen} {g : Nat → List UInt8} (hf : ∀ t, Wr (f t) (g t)) (L : List Nd) (a : Int) : ∀ i, Wr (kidsP f L a i) (flK g L a i) := by
  intro i
  induction i with
  | zero => intro p; simp [kidsP, flK]
  | succ i ih => intro p; simp only [kidsP, flK]; rw [hf, ih, List.append_assoc]
theorem layN_true {L : List Nd} {w : Nat} (hr : ∀ n ∈ L, rightF n = true) : ∀ (m at_ ind : Nat), Wr (layN L w m at_ ind true) (flN L m at_) := by
  intro m
  induction m with
  | zero => intro at_ ind p; simp [layN, flN]
  | succ m ih =>
    intro at_ ind p
    cases hn : L[at_]? with
    | none => simp [layN, flN, hn]
    | some n =>
      have hrn := hr n (List.mem_of_getElem? hn)
      simp only [layN, flN, hn]
      split
      · rename_i h; rw [right_kids hrn (.inl h)]; simp [kidsP, Pen.put]
      · split
        · rename_i h; rw [right_kids hrn (.inr h)]; simp [kidsP, Pen.put]
        · split
          · exact kidsP_wr (fun t => ih t _) L _ _ p
          · split
            · simp only [Bool.true_or]; exact kidsP_wr (fun t => ih t _) L _ _ p
            · exact kidsP_wr (fun t => ih t _) L _ _ p

/-- a part of a row -/
def part (L : List Nd) (a b : Nat) : List Nd := (L.take b).drop a
theorem part_cat {L : List Nd} {a b c : Nat} (h1 : a ≤ b) (h2 : b ≤ c) : part L a c = part L a b ++ part L b c := by
  unfold part
  have e : L.take c = L.take b ++ (L.take c).drop b := by
    conv => lhs; rw [← List.take_append_drop b (L.take c)]
    rw [List.take_take, Nat.min_eq_left h2]
  rcases Nat.lt_or_ge L.length b with h3 | h3
  · have h4 : L.take b = L := List.take_of_length_le (by omega)
    have h5 : L.take c = L := List.take_of_length_le (by omega)
    rw [h4, h5]
    rw [List.drop_of_length_le (l := L) (i := b) (by omega), List.append_nil]
  · conv => lhs; rw [e]
    rw [List.drop_append_of_le_length (by rw [List.length_take]; omega)]
theorem part_one {L : List Nd} {a : Nat} {n : Nd} (h : L[a]? = some n) : part L a (a + 1) = [n] := by
  unfold part
  rw [List.take_add_one, h]
  obtain ⟨h1, _⟩ := List.getElem?_eq_some_iff.1 h
  rw [List.drop_append_of_le_length (by rw [List.length_take]; omega)]
  rw [List.drop_of_length_le (by rw [List.length_take]; omega)]; rfl
theorem part_nil (L : List Nd) (a : Nat) : part L a a = [] := by unfold part; exact List.drop_of_length_le (by rw [List.length_take]; omega)
theorem sizeF_app (A B : List Nd) : sizeF (A ++ B) = sizeF A + sizeF B := by simp [sizeF]

theorem part_le (L : List Nd) (a b : Nat) : sizeF (part L a b) ≤ sizeF L := by
  have h1 := sizeF_app (L.take b) (L.drop b)
  have h2 := sizeF_app ((L.take b).take a) ((L.take b).drop a)
  rw [List.take_append_drop] at h1 h2
  unfold part; omega
theorem flK_len {L : List Nd} {m at_ : Nat} {n : Nd} (ih : ∀ (t : Nat), L.length ≤ m + t → 0 ≤ endF L t → (flN L m t).length = sizeF (part L t (endF L t).toNat)) (hm : L.length ≤ m + 1 + at_) (hn : L[at_]? = some n) (he : 0 ≤ endF L at_) :
    ∀ i, i ≤ n.kids.toNat → (flK (flN L m) L ((at_ : Int) + 1) i).length = sizeF (part L (at_ + 1) (seqE L ((at_ : Int) + 1) i).toNat) := by
  obtain ⟨k1, k2, k3, k4⟩ := node_end hn he
  have hk := (List.getElem?_eq_some_iff.1 hn).1
  intro i
  induction i with
  | zero =>
    intro _
    have : (seqE L ((at_ : Int) + 1) 0).toNat = at_ + 1 := by simp only [seqE]; omega
    rw [this, part_nil]; rfl
  | succ i ihi =>
    intro hi
    have h1 := k4 i (by omega)
    have h2 := k4 (i + 1) hi
    have h3 := seqE_bd h1 hk
    have h5 := seqE_bd h2 hk
    have h6 : (((seqE L ((at_ : Int) + 1) i).toNat : Nat) : Int) = seqE L ((at_ : Int) + 1) i := Int.toNat_of_nonneg h1
    have h7 := seqE_succ h1
    have h8 := endF_bd L (seqE L ((at_ : Int) + 1) i)
    have h9 := ih (seqE L ((at_ : Int) + 1) i).toNat (by omega) (by rw [h6, ← h7]; exact h2)
    rw [h6, ← h7] at h9
    simp only [flK]
    rw [List.length_append, ihi (by omega), h9, ← sizeF_app, ← part_cat (by omega) (by omega)]

theorem flN_len {L : List Nd} (hr : ∀ n ∈ L, rightF n = true) : ∀ (m at_ : Nat), L.length ≤ m + at_ → 0 ≤ endF L at_ → (flN L m at_).length = sizeF (part L at_ (endF L at_).toNat) := by
  intro m
  induction m with
  | zero =>
    intro at_ hm he
    have := endF_bd L at_; omega
  | succ m ih =>
    intro at_ hm he
    obtain ⟨n, hn⟩ := node_at he
    obtain ⟨k1, k2, k3, k4⟩ := node_end hn he
    have hk := (List.getElem?_eq_some_iff.1 hn).1
    have hrn := hr n (List.mem_of_getElem? hn)
    have key := flK_len (fun t => ih t) hm hn he
    have hcat : part L at_ (endF L at_).toNat = [n] ++ part L (at_ + 1) (endF L at_).toNat := by
      have := endF_bd L at_
      rw [part_cat (b := at_ + 1) (by omega) (by omega), part_one hn]
    rw [hcat, sizeF_app]
    have hz : n.kind = 41 ∨ n.kind = 42 → sizeF (part L (at_ + 1) (endF L at_).toNat) = 0 := by
      intro h
      have := right_kids hrn h
      rw [k3, this]
      have : (seqE L ((at_ : Int) + 1) (Int.toNat 0)).toNat = at_ + 1 := by simp only [Int.toNat_zero, seqE]; omega
      rw [this, part_nil]; rfl
    simp only [flN, hn]
    split
    · rename_i h; rw [hz (.inl h)]; simp [sizeF, h]
    · rename_i h41
      split
      · rename_i h; rw [hz (.inr h)]; simp [sizeF, h, right_text hrn h41]
      · rename_i h42
        rw [key _ (Nat.le_refl _), ← k3]
        simp [sizeF, right_text hrn h41, h42]
end Go.Proofs.Ytcjakkbanlgafaa
/- The layout statements: the walks of the reference's column and Flat. -/
namespace Go.Proofs.Ytcjakkbanlgafaa
open Go.Sx Go.RowKit Go.Lib
attribute [local irreducible] Ylds astep alex alexE alexD awp PCall FCall RCall MCall QCall athen ablock ajump rpost fpost mpost

theorem take_succ_get {α : Type} {l : List α} {i : Nat} {x : α} (h : l[i]? = some x) : l.take (i + 1) = l.take i ++ [x] := by rw [List.take_add_one, h]; rfl
theorem getD_some' {l : List UInt8} {i : Nat} (h : i < l.length) : l[i]? = some (l.getD i 0) := by
  rw [List.getD_eq_getElem?_getD, List.getElem?_eq_getElem h]; rfl
theorem colF_succ {s : List UInt8} {i c : Nat} (h : i < s.length) : colF (s.take (i + 1)) c = if s.getD i 0 = 10 then 0 else colF (s.take i) c + 1 := by
  rw [take_succ_get (getD_some' h), colF_append]; rfl
theorem u8_nat (b : UInt8) (n : Nat) (hn : n < 256) : ((b.toNat : Int) = n) ↔ b = UInt8.ofNat n := by
  constructor
  · intro h
    have : b.toNat = n := by omega
    rw [← UInt8.toNat_inj, this]; simp; omega
  · intro h; subst h; simp; omega

theorem column_ok (s : List UInt8) (c : Nat) (hs : s.length ≤ 1000000000) (hc : c ≤ 1000000000) : PCall Try.prog 43 [str s, i64 c] (i64 (colF s c)) := by
  refine pcall_of Try.func43 rfl Try.ntmps43 Try.results43 rfl ?_
  intro wb St0
  repeat' first
    | refine en_n ?_
    | refine awp_seq ?_
    | refine awp_region ?_
    | refine alex_nil ?_
    | refine w0 ?_
    | (apply aJ (hd := rfl); (first | exact Co_dd rfl | exact Co_bb rfl rfl rfl | exact Co_nn rfl); exact rfl; exact (by first | exact es_nodes | exact es_ints | exact es_nodess); assumption; omega; exact fun _ => rfl)
    | (apply aI (hd := rfl); (first | exact Co_dd rfl | exact Co_bb rfl rfl rfl | exact Co_nn rfl); exact rfl; exact (by first | exact es_nodes | exact es_ints | exact es_nodess); exact fun _ => rfl; rotate_left; intro v hv; rotate_right)
    | (apply aApp (hd := rfl) (hro := rfl); exact rfl; exact rfl; (first | exact Co_dd rfl | exact Co_bb rfl rfl rfl | exact Co_nn rfl); (first | exact rfl | (simp; done)); exact rfl; exact (by first | exact ety_nodes | exact ety_ints | exact ety_nodess); exact (by first | exact es_nodes | exact es_ints | exact es_nodess); exact (by first | exact zl_node | exact zl_int | exact zl_nodes); exact (by first | exact by_nodes | exact by_ints | exact by_nodess); (first | exact sz_map (fun _ => rfl) | exact sz_lit rfl))
    | (apply aBox (hd := rfl) (hro := rfl); exact rfl; exact rfl)
    | (apply aAlloc (hd := rfl) (hro := rfl); exact (by first | exact zo_node | exact zo_int))
    | apply ay (hd := rfl)
    | (apply Y_move_d; exact rfl)
    | (apply Y_assign_d; exact rfl)
    | (apply Y_field_r; exact rfl; exact (by first | exact fo_0 | exact fo_1 | exact fo_2 | exact fo_3))
    | (apply Y_load_r1; exact rfl; exact (by first | exact tc_int | exact tc_nodes | exact tc_node | exact tc_ints | exact tc_kind | exact tc_i64 | exact tc_str | exact tc_bool))
    | (apply Y_load_r; exact rfl; exact (by first | exact tc_int | exact tc_nodes | exact tc_node | exact tc_ints | exact tc_kind | exact tc_i64 | exact tc_str | exact tc_bool); exact rfl)
    | (apply Y_len_m; exact rfl; exact (by first | exact et_nodes | exact et_ints | exact et_nodess))
    | (apply Y_len_d; exact rfl; exact (by first | exact et_nodes | exact et_ints | exact et_nodess))
    | (apply Y_lss; exact rfl; exact rfl)
    | (apply Y_leq; exact rfl; exact rfl)
    | (apply Y_gtr; exact rfl; exact rfl)
    | (apply Y_geq; exact rfl; exact rfl)
    | (apply Y_eql; exact rfl; exact rfl)
    | (apply Y_neq; exact rfl; exact rfl)
    | (apply Y_add; exact rfl; exact rfl)
    | (apply Y_sub; exact rfl; exact rfl)
    | (apply Y_mul; exact rfl; exact rfl)
    | (apply Y_not; exact rfl)
    | (apply Y_pick_t; exact rfl; exact rfl)
    | (apply Y_pick_f; exact rfl; exact rfl)
    | (apply Y_extract; exact rfl; exact rfl)
    | (apply Y_max; exact rfl; exact rfl)
    | (apply Y_move_nil; exact rfl)
    | (apply Y_assign_nil; exact rfl)
    | (apply Y_move_buf; exact rfl)
    | (apply Y_assign_buf; exact rfl)
    | (apply Y_len_buf; exact rfl; exact (by first | exact et_nodes | exact et_ints | exact et_nodess))
    | (apply Y_len_nil; exact rfl; exact (by first | exact et_nodes | exact et_ints | exact et_nodess))
    | (apply Y_move_ptr; exact rfl)
    | (apply Y_assign_ptr; exact rfl)
    | (apply Y_move_clo; exact rfl)
    | (apply Y_assign_clo; exact rfl)
    | (apply Y_field_p; exact rfl; exact (by first | exact fo_0 | exact fo_1 | exact fo_2 | exact fo_3))
    | (apply Y_load_p; exact rfl; exact (by first | exact tc_int | exact tc_nodes | exact tc_node | exact tc_ints | exact tc_kind | exact tc_i64 | exact tc_str | exact tc_bool); exact rfl; exact rfl)
    | (apply Y_load_pa; exact rfl; exact (by first | exact tc_int | exact tc_nodes | exact tc_node | exact tc_ints | exact tc_kind | exact tc_i64 | exact tc_str | exact tc_bool); exact rfl; exact rfl; exact rfl)
    | (apply Y_sl; (first | exact Co_dd rfl | exact Co_bb rfl rfl rfl | exact Co_nn rfl); exact (by first | exact es_nodes | exact es_ints | exact es_nodess); exact rfl; exact rfl; exact fun _ => rfl)
    | (apply Y_sl_l; (first | exact Co_dd rfl | exact Co_bb rfl rfl rfl | exact Co_nn rfl); exact (by first | exact es_nodes | exact es_ints | exact es_nodess); exact rfl; exact fun _ => rfl)
    | (apply Y_sl_h; (first | exact Co_dd rfl | exact Co_bb rfl rfl rfl | exact Co_nn rfl); exact (by first | exact es_nodes | exact es_ints | exact es_nodess); exact rfl; exact fun _ => rfl)
    | (apply Y_lit0; exact (by first | exact ety_nodes | exact ety_ints | exact ety_nodess); exact (by first | exact es_nodes | exact es_ints | exact es_nodess); exact (by first | exact zs_node | exact zs_int | exact zs_nodes); exact rfl)
    | (apply Y_lit1; exact (by first | exact ety_nodes | exact ety_ints | exact ety_nodess); exact (by first | exact es_nodes | exact es_ints | exact es_nodess); exact (by first | exact zs_node | exact zs_int | exact zs_nodes); exact rfl; exact rfl; (first | exact CoL_d rfl CoL_nil | exact CoL_b rfl rfl rfl CoL_nil | exact CoL_n rfl CoL_nil); exact rfl)
    | (apply Y_lit2; exact (by first | exact ety_nodes | exact ety_ints | exact ety_nodess); exact (by first | exact es_nodes | exact es_ints | exact es_nodess); exact (by first | exact zs_node | exact zs_int | exact zs_nodes); exact rfl; exact rfl; (first | exact CoL_d rfl (CoL_d rfl CoL_nil) | exact CoL_b rfl rfl rfl (CoL_b rfl rfl rfl CoL_nil)); exact rfl)
    | (apply Y_lit3; exact (by first | exact ety_nodes | exact ety_ints | exact ety_nodess); exact (by first | exact es_nodes | exact es_ints | exact es_nodess); exact (by first | exact zs_node | exact zs_int | exact zs_nodes); exact rfl; exact rfl; (exact CoL_d rfl (CoL_d rfl (CoL_d rfl CoL_nil))); exact rfl)
    | (apply Y_lit4; exact (by first | exact ety_nodes | exact ety_ints | exact ety_nodess); exact (by first | exact es_nodes | exact es_ints | exact es_nodess); exact (by first | exact zs_node | exact zs_int | exact zs_nodes); exact rfl; exact rfl; (exact CoL_d rfl (CoL_d rfl (CoL_d rfl (CoL_d rfl CoL_nil)))); exact rfl)
    | (apply Y_mkf; exact rfl)
    | (apply w1; exact rfl; exact rfl)
    | (apply k1 (hd := rfl); exact rfl; exact rfl)
    | (apply k0 (hd := rfl); exact rfl; exact rfl)
    | (apply gD; exact rfl; exact rfl; (intro hb); rotate_left; (intro hb); rotate_right)
    | (apply gN; exact rfl; exact rfl; (intro hb); rotate_left; (intro hb); rotate_right)
    | (apply g1; exact rfl; exact rfl; (intro hb); rotate_left; (intro hb); rotate_right)
    | (refine w0' ?_)
    | (apply aStore; exact rfl; exact rfl; exact rfl; exact (by first | exact tc_int | exact tc_nodes | exact tc_node | exact tc_ints | exact tc_kind | exact tc_i64 | exact tc_str | exact tc_bool); exact rfl; exact rfl; exact rfl; exact rfl)
    | (apply awp_condD; exact rfl; (intro hb); rotate_left; (intro hb); rotate_right)
    | (apply awp_condN; exact rfl; (intro hb); rotate_left; (intro hb); rotate_right)
    | (apply awp_condT; exact rfl)
    | (apply awp_condF; exact rfl)
    | (apply awp_cond; exact rfl; (intro hb); rotate_left; (intro hb); rotate_right)
    | refine awp_block ?_
    | refine awp_skip ?_
    | refine awp_ret ?_
    | refine awp_exit ?_
    | refine awp_label ?_
    | refine awp_goto ?_
    | refine awp_draw (by kernel_rfl) (by kernel_rfl) ?_
    | refine en_r ?_
    | refine en_e ?_
    | refine eb_n ?_
    | refine eb_r ?_
    | refine eb_e ?_
    | refine eb_o rfl ?_
    | refine en_g ?_
    | refine eb_g ?_
    | refine ej_n ?_
    | refine ej_r ?_
    | refine ej_e ?_
    | refine ej_g ?_
    | refine rpost_ret ?_
    | (apply res1; exact rfl)
    | (apply res1n; exact rfl)
    | (apply res1b; exact rfl; exact rfl; (first | exact rfl | (simp; done)))
    | (apply res2; exact rfl; exact rfl)
    | (apply res2n; exact rfl; exact rfl)
    | (apply res2b; exact rfl; exact rfl; (first | exact rfl | (simp; done)); exact rfl)
    | exact CoL_nil
    | refine CoL_d rfl ?_
    | refine CoL_b rfl rfl rfl ?_
    | refine CoL_n rfl ?_
    | refine CoL_v rfl ?_
  refine awp_loopF (α := Nat) (fun i => i ≤ s.length) (fun i => [(0, .d (str s)), (1, .d (i64 (colF (s.take i) c : Int))), (5, .d (i64 (i : Int)))]) (fun _ => []) (fun i => s.length - i) 0 (Nat.zero_le _)
      (Fits_mk (Le_cons rfl (Le_cons rfl (Le_cons rfl Le_nil))) Pre_nil rfl rfl) ?_
  intro i hi
  have hb0 := colF_le (s.take i) c
  rw [List.length_take, Nat.min_eq_left hi] at hb0
  repeat' first
    | refine en_n ?_
    | refine awp_seq ?_
    | refine awp_region ?_
    | refine alex_nil ?_
    | refine w0 ?_
    | (apply Y_len_l; exact rfl; exact ustr)
    | (apply Y_eqs; exact rfl; exact rfl)
    | (apply Y_neqs; exact rfl; exact rfl)
    | (apply Y_cat_l; exact rfl; exact rfl; omega)
    | (apply Y_idx_l; exact rfl; exact rfl; exact ustr; (first
    | assumption
    | omega))
    | (apply Y_sub_l; exact rfl; exact rfl; exact rfl; exact ustr; (first
    | assumption
    | omega))
    | (apply aJ (hd := rfl); (first | exact Co_dd rfl | exact Co_bb rfl rfl rfl | exact Co_nn rfl); exact rfl; exact (by first | exact es_nodes | exact es_ints | exact es_nodess); assumption; omega; exact fun _ => rfl)
    | (apply aI (hd := rfl); (first | exact Co_dd rfl | exact Co_bb rfl rfl rfl | exact Co_nn rfl); exact rfl; exact (by first | exact es_nodes | exact es_ints | exact es_nodess); exact fun _ => rfl; rotate_left; intro v hv; rotate_right)
    | (apply aApp (hd := rfl) (hro := rfl); exact rfl; exact rfl; (first | exact Co_dd rfl | exact Co_bb rfl rfl rfl | exact Co_nn rfl); (first | exact rfl | (simp; done)); exact rfl; exact (by first | exact ety_nodes | exact ety_ints | exact ety_nodess); exact (by first | exact es_nodes | exact es_ints | exact es_nodess); exact (by first | exact zl_node | exact zl_int | exact zl_nodes); exact (by first | exact by_nodes | exact by_ints | exact by_nodess); (first | exact sz_map (fun _ => rfl) | exact sz_lit rfl))
    | (apply aBox (hd := rfl) (hro := rfl); exact rfl; exact rfl)
    | (apply aAlloc (hd := rfl) (hro := rfl); exact (by first | exact zo_node | exact zo_int))
    | apply ay (hd := rfl)
    | (apply Y_move_d; exact rfl)
    | (apply Y_assign_d; exact rfl)
    | (apply Y_field_r; exact rfl; exact (by first | exact fo_0 | exact fo_1 | exact fo_2 | exact fo_3))
    | (apply Y_load_r1; exact rfl; exact (by first | exact tc_int | exact tc_nodes | exact tc_node | exact tc_ints | exact tc_kind | exact tc_i64 | exact tc_str | exact tc_bool))
    | (apply Y_load_r; exact rfl; exact (by first | exact tc_int | exact tc_nodes | exact tc_node | exact tc_ints | exact tc_kind | exact tc_i64 | exact tc_str | exact tc_bool); exact rfl)
    | (apply Y_len_m; exact rfl; exact (by first | exact et_nodes | exact et_ints | exact et_nodess))
    | (apply Y_len_d; exact rfl; exact (by first | exact et_nodes | exact et_ints | exact et_nodess))
    | (apply Y_lss; exact rfl; exact rfl)
    | (apply Y_leq; exact rfl; exact rfl)
    | (apply Y_gtr; exact rfl; exact rfl)
    | (apply Y_geq; exact rfl; exact rfl)
    | (apply Y_eql; exact rfl; exact rfl)
    | (apply Y_neq; exact rfl; exact rfl)
    | (apply Y_add; exact rfl; exact rfl)
    | (apply Y_sub; exact rfl; exact rfl)
    | (apply Y_mul; exact rfl; exact rfl)
    | (apply Y_not; exact rfl)
    | (apply Y_pick_t; exact rfl; exact rfl)
    | (apply Y_pick_f; exact rfl; exact rfl)
    | (apply Y_extract; exact rfl; exact rfl)
    | (apply Y_max; exact rfl; exact rfl)
    | (apply Y_move_nil; exact rfl)
    | (apply Y_assign_nil; exact rfl)
    | (apply Y_move_buf; exact rfl)
    | (apply Y_assign_buf; exact rfl)
    | (apply Y_len_buf; exact rfl; exact (by first | exact et_nodes | exact et_ints | exact et_nodess))
    | (apply Y_len_nil; exact rfl; exact (by first | exact et_nodes | exact et_ints | exact et_nodess))
    | (apply Y_move_ptr; exact rfl)
    | (apply Y_assign_ptr; exact rfl)
    | (apply Y_move_clo; exact rfl)
    | (apply Y_assign_clo; exact rfl)
    | (apply Y_field_p; exact rfl; exact (by first | exact fo_0 | exact fo_1 | exact fo_2 | exact fo_3))
    | (apply Y_load_p; exact rfl; exact (by first | exact tc_int | exact tc_nodes | exact tc_node | exact tc_ints | exact tc_kind | exact tc_i64 | exact tc_str | exact tc_bool); exact rfl; exact rfl)
    | (apply Y_load_pa; exact rfl; exact (by first | exact tc_int | exact tc_nodes | exact tc_node | exact tc_ints | exact tc_kind | exact tc_i64 | exact tc_str | exact tc_bool); exact rfl; exact rfl; exact rfl)
    | (apply Y_sl; (first | exact Co_dd rfl | exact Co_bb rfl rfl rfl | exact Co_nn rfl); exact (by first | exact es_nodes | exact es_ints | exact es_nodess); exact rfl; exact rfl; exact fun _ => rfl)
    | (apply Y_sl_l; (first | exact Co_dd rfl | exact Co_bb rfl rfl rfl | exact Co_nn rfl); exact (by first | exact es_nodes | exact es_ints | exact es_nodess); exact rfl; exact fun _ => rfl)
    | (apply Y_sl_h; (first | exact Co_dd rfl | exact Co_bb rfl rfl rfl | exact Co_nn rfl); exact (by first | exact es_nodes | exact es_ints | exact es_nodess); exact rfl; exact fun _ => rfl)
    | (apply Y_lit0; exact (by first | exact ety_nodes | exact ety_ints | exact ety_nodess); exact (by first | exact es_nodes | exact es_ints | exact es_nodess); exact (by first | exact zs_node | exact zs_int | exact zs_nodes); exact rfl)
    | (apply Y_lit1; exact (by first | exact ety_nodes | exact ety_ints | exact ety_nodess); exact (by first | exact es_nodes | exact es_ints | exact es_nodess); exact (by first | exact zs_node | exact zs_int | exact zs_nodes); exact rfl; exact rfl; (first | exact CoL_d rfl CoL_nil | exact CoL_b rfl rfl rfl CoL_nil | exact CoL_n rfl CoL_nil); exact rfl)
    | (apply Y_lit2; exact (by first | exact ety_nodes | exact ety_ints | exact ety_nodess); exact (by first | exact es_nodes | exact es_ints | exact es_nodess); exact (by first | exact zs_node | exact zs_int | exact zs_nodes); exact rfl; exact rfl; (first | exact CoL_d rfl (CoL_d rfl CoL_nil) | exact CoL_b rfl rfl rfl (CoL_b rfl rfl rfl CoL_nil)); exact rfl)
    | (apply Y_lit3; exact (by first | exact ety_nodes | exact ety_ints | exact ety_nodess); exact (by first | exact es_nodes | exact es_ints | exact es_nodess); exact (by first | exact zs_node | exact zs_int | exact zs_nodes); exact rfl; exact rfl; (exact CoL_d rfl (CoL_d rfl (CoL_d rfl CoL_nil))); exact rfl)
    | (apply Y_lit4; exact (by first | exact ety_nodes | exact ety_ints | exact ety_nodess); exact (by first | exact es_nodes | exact es_ints | exact es_nodess); exact (by first | exact zs_node | exact zs_int | exact zs_nodes); exact rfl; exact rfl; (exact CoL_d rfl (CoL_d rfl (CoL_d rfl (CoL_d rfl CoL_nil)))); exact rfl)
    | (apply Y_mkf; exact rfl)
    | (apply w1; exact rfl; exact rfl)
    | (apply k1 (hd := rfl); exact rfl; exact rfl)
    | (apply k0 (hd := rfl); exact rfl; exact rfl)
    | (apply gD; exact rfl; exact rfl; (intro hb); rotate_left; (intro hb); rotate_right)
    | (apply gN; exact rfl; exact rfl; (intro hb); rotate_left; (intro hb); rotate_right)
    | (apply g1; exact rfl; exact rfl; (intro hb); rotate_left; (intro hb); rotate_right)
    | (refine w0' ?_)
    | (apply aStore; exact rfl; exact rfl; exact rfl; exact (by first | exact tc_int | exact tc_nodes | exact tc_node | exact tc_ints | exact tc_kind | exact tc_i64 | exact tc_str | exact tc_bool); exact rfl; exact rfl; exact rfl; exact rfl)
    | (apply awp_condD; exact rfl; (intro hb); rotate_left; (intro hb); rotate_right)
    | (apply awp_condN; exact rfl; (intro hb); rotate_left; (intro hb); rotate_right)
    | (apply awp_condT; exact rfl)
    | (apply awp_condF; exact rfl)
    | (apply awp_cond; exact rfl; (intro hb); rotate_left; (intro hb); rotate_right)
    | refine awp_block ?_
    | refine awp_skip ?_
    | refine awp_ret ?_
    | refine awp_exit ?_
    | refine awp_label ?_
    | refine awp_goto ?_
    | refine awp_draw (by kernel_rfl) (by kernel_rfl) ?_
    | refine en_r ?_
    | refine en_e ?_
    | refine eb_n ?_
    | refine eb_r ?_
    | refine eb_e ?_
    | refine eb_o rfl ?_
    | refine en_g ?_
    | refine eb_g ?_
    | refine ej_n ?_
    | refine ej_r ?_
    | refine ej_e ?_
    | refine ej_g ?_
    | refine rpost_ret ?_
    | (apply res1; exact rfl)
    | (apply res1n; exact rfl)
    | (apply res1b; exact rfl; exact rfl; (first | exact rfl | (simp; done)))
    | (apply res2; exact rfl; exact rfl)
    | (apply res2n; exact rfl; exact rfl)
    | (apply res2b; exact rfl; exact rfl; (first | exact rfl | (simp; done)); exact rfl)
    | exact CoL_nil
    | refine CoL_d rfl ?_
    | refine CoL_b rfl rfl rfl ?_
    | refine CoL_n rfl ?_
    | refine CoL_v rfl ?_
  · omega
  · have hlt : i < s.length := by omega
    refine ⟨i + 1, by omega, by omega, Fits_mk (Le_cons rfl (Le_d rfl ?_ (Le_cons rfl Le_nil))) Pre_nil rfl rfl⟩
    have h10 : s.getD i 0 = 10 := (u8_nat _ 10 (by omega)).1 hb
    rw [colF_succ hlt, if_pos h10]; rfl
  · omega
  · omega
  · have hlt : i < s.length := by omega
    refine ⟨i + 1, by omega, by omega, Fits_mk (Le_cons rfl (Le_d rfl ?_ (Le_cons rfl Le_nil))) Pre_nil rfl rfl⟩
    have h10 : s.getD i 0 ≠ 10 := fun h => hb ((u8_nat _ 10 (by omega)).2 h)
    rw [colF_succ hlt, if_neg h10]; rfl
  · rw [List.take_of_length_le (by omega)]

theorem kids_map {L : List Nd} {k : Nat} {n : Nd} (hn : L[k]? = some n) (he : 0 ≤ endF L k) : kidsF L k = (List.range n.kids.toNat).map (seqE L ((k : Int) + 1)) := by
  obtain ⟨k', x, e1, hx, _, _, _, _, hf⟩ := kid_at (L := L) (a := (k : Int)) (by omega)
  have : k' = k := by omega
  subst this
  rw [hn] at hx
  obtain rfl := Option.some.inj hx
  exact hf
theorem map_at {f : Nat → Int} {c i : Nat} {v : Int} (h : ((List.range c).map f)[i]? = some v) : i < c ∧ v = f i := by
  rw [List.getElem?_map] at h
  cases hr : (List.range c)[i]? with
  | none => simp [hr] at h
  | some j =>
    obtain ⟨h1, h2⟩ := List.getElem?_eq_some_iff.1 hr
    simp at h1 h2
    simp [hr] at h
    subst h2
    exact ⟨h1, h.symm⟩

theorem rFlat_ok {L : List Nd} (hD : Doc L) : ∀ (m : Nat) (at_ : Int), (L.length : Int) ≤ m + at_ → 0 ≤ endF L at_ → PCall Try.prog 15 [nodes L, i64 at_] (str (flN L m at_.toNat)) := by
  have hlen := hD.len
  intro m
  induction m with
  | zero =>
    intro at_ hm he
    have := endF_bd L at_; omega
  | succ m ih =>
    intro at_ hm he
    obtain ⟨k, rfl⟩ : ∃ k : Nat, at_ = k := ⟨at_.toNat, by have := endF_bd L at_; omega⟩
    obtain ⟨n, hn⟩ := node_at he
    obtain ⟨k1, k2, k3, k4⟩ := node_end hn he
    have hk := (List.getElem?_eq_some_iff.1 hn).1
    have hsz := sizeF_le hD.text L.length
    rw [List.take_length] at hsz
    have hkl := flK_len (L := L) (m := m) (fun t h1 h2 => flN_len hD.right m t h1 h2) (by omega) hn he
    have hfl := fun t h1 h2 => flN_len hD.right m t h1 h2
    refine pcall_of Try.func15 rfl Try.ntmps15 Try.results15 rfl ?_
    intro wb St0
    rw [Int.toNat_natCast]
    simp only [flN, hn]
    have hkids := rKids_ok L k (by omega)
    rw [kids_map hn he] at hkids
    repeat' first
      | refine en_n ?_
      | refine awp_seq ?_
      | refine awp_region ?_
      | refine alex_nil ?_
      | refine w0 ?_
      | (apply Y_call (hb := hb_rKids) (hc := hkids))
      | (apply aJ (hd := rfl); (first | exact Co_dd rfl | exact Co_bb rfl rfl rfl | exact Co_nn rfl); exact rfl; exact (by first | exact es_nodes | exact es_ints | exact es_nodess); assumption; omega; exact fun _ => rfl)
      | (apply aI (hd := rfl); (first | exact Co_dd rfl | exact Co_bb rfl rfl rfl | exact Co_nn rfl); exact rfl; exact (by first | exact es_nodes | exact es_ints | exact es_nodess); exact fun _ => rfl; rotate_left; intro v hv; rotate_right)
      | (apply aApp (hd := rfl) (hro := rfl); exact rfl; exact rfl; (first | exact Co_dd rfl | exact Co_bb rfl rfl rfl | exact Co_nn rfl); (first | exact rfl | (simp; done)); exact rfl; exact (by first | exact ety_nodes | exact ety_ints | exact ety_nodess); exact (by first | exact es_nodes | exact es_ints | exact es_nodess); exact (by first | exact zl_node | exact zl_int | exact zl_nodes); exact (by first | exact by_nodes | exact by_ints | exact by_nodess); (first | exact sz_map (fun _ => rfl) | exact sz_lit rfl))
      | (apply aBox (hd := rfl) (hro := rfl); exact rfl; exact rfl)
      | (apply aAlloc (hd := rfl) (hro := rfl); exact (by first | exact zo_node | exact zo_int))
      | apply ay (hd := rfl)
      | (apply Y_move_d; exact rfl)
      | (apply Y_assign_d; exact rfl)
      | (apply Y_field_r; exact rfl; exact (by first | exact fo_0 | exact fo_1 | exact fo_2 | exact fo_3))
      | (apply Y_load_r1; exact rfl; exact (by first | exact tc_int | exact tc_nodes | exact tc_node | exact tc_ints | exact tc_kind | exact tc_i64 | exact tc_str | exact tc_bool))
      | (apply Y_load_r; exact rfl; exact (by first | exact tc_int | exact tc_nodes | exact tc_node | exact tc_ints | exact tc_kind | exact tc_i64 | exact tc_str | exact tc_bool); exact rfl)
      | (apply Y_len_m; exact rfl; exact (by first | exact et_nodes | exact et_ints | exact et_nodess))
      | (apply Y_len_d; exact rfl; exact (by first | exact et_nodes | exact et_ints | exact et_nodess))
      | (apply Y_lss; exact rfl; exact rfl)
      | (apply Y_leq; exact rfl; exact rfl)
      | (apply Y_gtr; exact rfl; exact rfl)
      | (apply Y_geq; exact rfl; exact rfl)
      | (apply Y_eql; exact rfl; exact rfl)
      | (apply Y_neq; exact rfl; exact rfl)
      | (apply Y_add; exact rfl; exact rfl)
      | (apply Y_sub; exact rfl; exact rfl)
      | (apply Y_mul; exact rfl; exact rfl)
      | (apply Y_not; exact rfl)
      | (apply Y_pick_t; exact rfl; exact rfl)
      | (apply Y_pick_f; exact rfl; exact rfl)
      | (apply Y_extract; exact rfl; exact rfl)
      | (apply Y_max; exact rfl; exact rfl)
      | (apply Y_move_nil; exact rfl)
      | (apply Y_assign_nil; exact rfl)
      | (apply Y_move_buf; exact rfl)
      | (apply Y_assign_buf; exact rfl)
      | (apply Y_len_buf; exact rfl; exact (by first | exact et_nodes | exact et_ints | exact et_nodess))
      | (apply Y_len_nil; exact rfl; exact (by first | exact et_nodes | exact et_ints | exact et_nodess))
      | (apply Y_move_ptr; exact rfl)
      | (apply Y_assign_ptr; exact rfl)
      | (apply Y_move_clo; exact rfl)
      | (apply Y_assign_clo; exact rfl)
      | (apply Y_field_p; exact rfl; exact (by first | exact fo_0 | exact fo_1 | exact fo_2 | exact fo_3))
      | (apply Y_load_p; exact rfl; exact (by first | exact tc_int | exact tc_nodes | exact tc_node | exact tc_ints | exact tc_kind | exact tc_i64 | exact tc_str | exact tc_bool); exact rfl; exact rfl)
      | (apply Y_load_pa; exact rfl; exact (by first | exact tc_int | exact tc_nodes | exact tc_node | exact tc_ints | exact tc_kind | exact tc_i64 | exact tc_str | exact tc_bool); exact rfl; exact rfl; exact rfl)
      | (apply Y_sl; (first | exact Co_dd rfl | exact Co_bb rfl rfl rfl | exact Co_nn rfl); exact (by first | exact es_nodes | exact es_ints | exact es_nodess); exact rfl; exact rfl; exact fun _ => rfl)
      | (apply Y_sl_l; (first | exact Co_dd rfl | exact Co_bb rfl rfl rfl | exact Co_nn rfl); exact (by first | exact es_nodes | exact es_ints | exact es_nodess); exact rfl; exact fun _ => rfl)
      | (apply Y_sl_h; (first | exact Co_dd rfl | exact Co_bb rfl rfl rfl | exact Co_nn rfl); exact (by first | exact es_nodes | exact es_ints | exact es_nodess); exact rfl; exact fun _ => rfl)
      | (apply Y_lit0; exact (by first | exact ety_nodes | exact ety_ints | exact ety_nodess); exact (by first | exact es_nodes | exact es_ints | exact es_nodess); exact (by first | exact zs_node | exact zs_int | exact zs_nodes); exact rfl)
      | (apply Y_lit1; exact (by first | exact ety_nodes | exact ety_ints | exact ety_nodess); exact (by first | exact es_nodes | exact es_ints | exact es_nodess); exact (by first | exact zs_node | exact zs_int | exact zs_nodes); exact rfl; exact rfl; (first | exact CoL_d rfl CoL_nil | exact CoL_b rfl rfl rfl CoL_nil | exact CoL_n rfl CoL_nil); exact rfl)
      | (apply Y_lit2; exact (by first | exact ety_nodes | exact ety_ints | exact ety_nodess); exact (by first | exact es_nodes | exact es_ints | exact es_nodess); exact (by first | exact zs_node | exact zs_int | exact zs_nodes); exact rfl; exact rfl; (first | exact CoL_d rfl (CoL_d rfl CoL_nil) | exact CoL_b rfl rfl rfl (CoL_b rfl rfl rfl CoL_nil)); exact rfl)
      | (apply Y_lit3; exact (by first | exact ety_nodes | exact ety_ints | exact ety_nodess); exact (by first | exact es_nodes | exact es_ints | exact es_nodess); exact (by first | exact zs_node | exact zs_int | exact zs_nodes); exact rfl; exact rfl; (exact CoL_d rfl (CoL_d rfl (CoL_d rfl CoL_nil))); exact rfl)
      | (apply Y_lit4; exact (by first | exact ety_nodes | exact ety_ints | exact ety_nodess); exact (by first | exact es_nodes | exact es_ints | exact es_nodess); exact (by first | exact zs_node | exact zs_int | exact zs_nodes); exact rfl; exact rfl; (exact CoL_d rfl (CoL_d rfl (CoL_d rfl (CoL_d rfl CoL_nil)))); exact rfl)
      | (apply Y_mkf; exact rfl)
      | (apply w1; exact rfl; exact rfl)
      | (apply k1 (hd := rfl); exact rfl; exact rfl)
      | (apply k0 (hd := rfl); exact rfl; exact rfl)
      | (apply gD; exact rfl; exact rfl; (intro hb); rotate_left; (intro hb); rotate_right)
      | (apply gN; exact rfl; exact rfl; (intro hb); rotate_left; (intro hb); rotate_right)
      | (apply g1; exact rfl; exact rfl; (intro hb); rotate_left; (intro hb); rotate_right)
      | (refine w0' ?_)
      | (apply aStore; exact rfl; exact rfl; exact rfl; exact (by first | exact tc_int | exact tc_nodes | exact tc_node | exact tc_ints | exact tc_kind | exact tc_i64 | exact tc_str | exact tc_bool); exact rfl; exact rfl; exact rfl; exact rfl)
      | (apply awp_condD; exact rfl; (intro hb); rotate_left; (intro hb); rotate_right)
      | (apply awp_condN; exact rfl; (intro hb); rotate_left; (intro hb); rotate_right)
      | (apply awp_condT; exact rfl)
      | (apply awp_condF; exact rfl)
      | (apply awp_cond; exact rfl; (intro hb); rotate_left; (intro hb); rotate_right)
      | refine awp_block ?_
      | refine awp_skip ?_
      | refine awp_ret ?_
      | refine awp_exit ?_
      | refine awp_label ?_
      | refine awp_goto ?_
      | refine awp_draw (by kernel_rfl) (by kernel_rfl) ?_
      | refine en_r ?_
      | refine en_e ?_
      | refine eb_n ?_
      | refine eb_r ?_
      | refine eb_e ?_
      | refine eb_o rfl ?_
      | refine en_g ?_
      | refine eb_g ?_
      | refine ej_n ?_
      | refine ej_r ?_
      | refine ej_e ?_
      | refine ej_g ?_
      | refine rpost_ret ?_
      | (apply res1; exact rfl)
      | (apply res1n; exact rfl)
      | (apply res1b; exact rfl; exact rfl; (first | exact rfl | (simp; done)))
      | (apply res2; exact rfl; exact rfl)
      | (apply res2n; exact rfl; exact rfl)
      | (apply res2b; exact rfl; exact rfl; (first | exact rfl | (simp; done)); exact rfl)
      | exact CoL_nil
      | refine CoL_d rfl ?_
      | refine CoL_b rfl rfl rfl ?_
      | refine CoL_n rfl ?_
      | refine CoL_v rfl ?_
    · rw [if_pos hb]
    · rename_i h1; rw [if_neg h1, if_pos hb]
    rename_i h1
    rw [if_neg h1, if_neg hb]
    refine awp_loopF (α := Nat) (fun i => i ≤ n.kids.toNat) (fun i => [(0, .d (nodes L)), (6, .d (str (flK (flN L m) L ((k : Int) + 1) i))), (7, .d (ints ((List.range n.kids.toNat).map (seqE L ((k : Int) + 1))))), (8, .d (i64 (i : Int)))]) (fun _ => []) (fun i => n.kids.toNat - i) 0 (Nat.zero_le _)
      (Fits_mk (Le_cons rfl (Le_cons rfl (Le_cons rfl (Le_cons rfl Le_nil)))) Pre_nil rfl rfl) ?_
    intro i hi
    have hl1 := hkl i hi
    have hl2 := part_le L (k + 1) (seqE L ((k : Int) + 1) i).toNat
    have hs := k4 i hi
    have hsb := seqE_bd hs hk
    have h6 : (((seqE L ((k : Int) + 1) i).toNat : Nat) : Int) = seqE L ((k : Int) + 1) i := Int.toNat_of_nonneg hs
    have hnx : ∀ {v : Int}, ((List.range n.kids.toNat).map (seqE L ((k : Int) + 1)))[((i : Int)).toNat]? = some v → i < n.kids.toNat ∧ v = seqE L ((k : Int) + 1) i ∧ 0 ≤ endF L v := by
      intro v hv
      obtain ⟨h2, h3⟩ := map_at (i := i) hv
      have := k4 (i + 1) (by omega)
      rw [seqE_succ hs, ← h3] at this
      exact ⟨h2, h3, this⟩
    have hcall : ∀ {v : Int}, ((List.range n.kids.toNat).map (seqE L ((k : Int) + 1)))[((i : Int)).toNat]? = some v → PCall Try.prog 15 [nodes L, i64 v] (str (flN L m v.toNat)) := by
      intro v hv
      obtain ⟨h2, h3, h4⟩ := hnx hv
      exact ih v (by omega) h4
    have hcat : ∀ {v : Int}, ((List.range n.kids.toNat).map (seqE L ((k : Int) + 1)))[((i : Int)).toNat]? = some v → ((flK (flN L m) L ((k : Int) + 1) i).length : Int) + (flN L m v.toNat).length ≤ 9223372036854775807 := by
      intro v hv
      obtain ⟨h2, h3, h4⟩ := hnx hv
      subst h3
      have h5 := hfl (seqE L ((k : Int) + 1) i).toNat (by omega) (by rw [h6]; exact h4)
      have h7 := part_le L (seqE L ((k : Int) + 1) i).toNat (endF L ((seqE L ((k : Int) + 1) i).toNat : Nat)).toNat
      omega
    repeat' first
      | refine en_n ?_
      | refine awp_seq ?_
      | refine awp_region ?_
      | refine alex_nil ?_
      | refine w0 ?_
      | (apply Y_cat_l; exact rfl; exact rfl; exact hcat hv)
      | (apply Y_len_l; exact rfl; exact ustr)
      | (apply Y_eqs; exact rfl; exact rfl)
      | (apply Y_neqs; exact rfl; exact rfl)
      | (apply Y_cat_l; exact rfl; exact rfl; omega)
      | (apply Y_idx_l; exact rfl; exact rfl; exact ustr; (first
      | assumption
      | omega))
      | (apply Y_sub_l; exact rfl; exact rfl; exact rfl; exact ustr; (first
      | assumption
      | omega))
      | (apply Y_call (hb := hb_rFlat) (hc := hcall hv))
      | (apply aJ (hd := rfl); (first | exact Co_dd rfl | exact Co_bb rfl rfl rfl | exact Co_nn rfl); exact rfl; exact (by first | exact es_nodes | exact es_ints | exact es_nodess); assumption; omega; exact fun _ => rfl)
      | (apply aI (hd := rfl); (first | exact Co_dd rfl | exact Co_bb rfl rfl rfl | exact Co_nn rfl); exact rfl; exact (by first | exact es_nodes | exact es_ints | exact es_nodess); exact fun _ => rfl; rotate_left; intro v hv; rotate_right)
      | (apply aApp (hd := rfl) (hro := rfl); exact rfl; exact rfl; (first | exact Co_dd rfl | exact Co_bb rfl rfl rfl | exact Co_nn rfl); (first | exact rfl | (simp; done)); exact rfl; exact (by first | exact ety_nodes | exact ety_ints | exact ety_nodess); exact (by first | exact es_nodes | exact es_ints | exact es_nodess); exact (by first | exact zl_node | exact zl_int | exact zl_nodes); exact (by first | exact by_nodes | exact by_ints | exact by_nodess); (first | exact sz_map (fun _ => rfl) | exact sz_lit rfl))
      | (apply aBox (hd := rfl) (hro := rfl); exact rfl; exact rfl)
      | (apply aAlloc (hd := rfl) (hro := rfl); exact (by first | exact zo_node | exact zo_int))
      | apply ay (hd := rfl)
      | (apply Y_move_d; exact rfl)
      | (apply Y_assign_d; exact rfl)
      | (apply Y_field_r; exact rfl; exact (by first | exact fo_0 | exact fo_1 | exact fo_2 | exact fo_3))
      | (apply Y_load_r1; exact rfl; exact (by first | exact tc_int | exact tc_nodes | exact tc_node | exact tc_ints | exact tc_kind | exact tc_i64 | exact tc_str | exact tc_bool))
      | (apply Y_load_r; exact rfl; exact (by first | exact tc_int | exact tc_nodes | exact tc_node | exact tc_ints | exact tc_kind | exact tc_i64 | exact tc_str | exact tc_bool); exact rfl)
      | (apply Y_len_m; exact rfl; exact (by first | exact et_nodes | exact et_ints | exact et_nodess))
      | (apply Y_len_d; exact rfl; exact (by first | exact et_nodes | exact et_ints | exact et_nodess))
      | (apply Y_lss; exact rfl; exact rfl)
      | (apply Y_leq; exact rfl; exact rfl)
      | (apply Y_gtr; exact rfl; exact rfl)
      | (apply Y_geq; exact rfl; exact rfl)
      | (apply Y_eql; exact rfl; exact rfl)
      | (apply Y_neq; exact rfl; exact rfl)
      | (apply Y_add; exact rfl; exact rfl)
      | (apply Y_sub; exact rfl; exact rfl)
      | (apply Y_mul; exact rfl; exact rfl)
      | (apply Y_not; exact rfl)
      | (apply Y_pick_t; exact rfl; exact rfl)
      | (apply Y_pick_f; exact rfl; exact rfl)
      | (apply Y_extract; exact rfl; exact rfl)
      | (apply Y_max; exact rfl; exact rfl)
      | (apply Y_move_nil; exact rfl)
      | (apply Y_assign_nil; exact rfl)
      | (apply Y_move_buf; exact rfl)
      | (apply Y_assign_buf; exact rfl)
      | (apply Y_len_buf; exact rfl; exact (by first | exact et_nodes | exact et_ints | exact et_nodess))
      | (apply Y_len_nil; exact rfl; exact (by first | exact et_nodes | exact et_ints | exact et_nodess))
      | (apply Y_move_ptr; exact rfl)
      | (apply Y_assign_ptr; exact rfl)
      | (apply Y_move_clo; exact rfl)
      | (apply Y_assign_clo; exact rfl)
      | (apply Y_field_p; exact rfl; exact (by first | exact fo_0 | exact fo_1 | exact fo_2 | exact fo_3))
      | (apply Y_load_p; exact rfl; exact (by first | exact tc_int | exact tc_nodes | exact tc_node | exact tc_ints | exact tc_kind | exact tc_i64 | exact tc_str | exact tc_bool); exact rfl; exact rfl)
      | (apply Y_load_pa; exact rfl; exact (by first | exact tc_int | exact tc_nodes | exact tc_node | exact tc_ints | exact tc_kind | exact tc_i64 | exact tc_str | exact tc_bool); exact rfl; exact rfl; exact rfl)
      | (apply Y_sl; (first | exact Co_dd rfl | exact Co_bb rfl rfl rfl | exact Co_nn rfl); exact (by first | exact es_nodes | exact es_ints | exact es_nodess); exact rfl; exact rfl; exact fun _ => rfl)
      | (apply Y_sl_l; (first | exact Co_dd rfl | exact Co_bb rfl rfl rfl | exact Co_nn rfl); exact (by first | exact es_nodes | exact es_ints | exact es_nodess); exact rfl; exact fun _ => rfl)
      | (apply Y_sl_h; (first | exact Co_dd rfl | exact Co_bb rfl rfl rfl | exact Co_nn rfl); exact (by first | exact es_nodes | exact es_ints | exact es_nodess); exact rfl; exact fun _ => rfl)
      | (apply Y_lit0; exact (by first | exact ety_nodes | exact ety_ints | exact ety_nodess); exact (by first | exact es_nodes | exact es_ints | exact es_nodess); exact (by first | exact zs_node | exact zs_int | exact zs_nodes); exact rfl)
      | (apply Y_lit1; exact (by first | exact ety_nodes | exact ety_ints | exact ety_nodess); exact (by first | exact es_nodes | exact es_ints | exact es_nodess); exact (by first | exact zs_node | exact zs_int | exact zs_nodes); exact rfl; exact rfl; (first | exact CoL_d rfl CoL_nil | exact CoL_b rfl rfl rfl CoL_nil | exact CoL_n rfl CoL_nil); exact rfl)
      | (apply Y_lit2; exact (by first | exact ety_nodes | exact ety_ints | exact ety_nodess); exact (by first | exact es_nodes | exact es_ints | exact es_nodess); exact (by first | exact zs_node | exact zs_int | exact zs_nodes); exact rfl; exact rfl; (first | exact CoL_d rfl (CoL_d rfl CoL_nil) | exact CoL_b rfl rfl rfl (CoL_b rfl rfl rfl CoL_nil)); exact rfl)
      | (apply Y_lit3; exact (by first | exact ety_nodes | exact ety_ints | exact ety_nodess); exact (by first | exact es_nodes | exact es_ints | exact es_nodess); exact (by first | exact zs_node | exact zs_int | exact zs_nodes); exact rfl; exact rfl; (exact CoL_d rfl (CoL_d rfl (CoL_d rfl CoL_nil))); exact rfl)
      | (apply Y_lit4; exact (by first | exact ety_nodes | exact ety_ints | exact ety_nodess); exact (by first | exact es_nodes | exact es_ints | exact es_nodess); exact (by first | exact zs_node | exact zs_int | exact zs_nodes); exact rfl; exact rfl; (exact CoL_d rfl (CoL_d rfl (CoL_d rfl (CoL_d rfl CoL_nil)))); exact rfl)
      | (apply Y_mkf; exact rfl)
      | (apply w1; exact rfl; exact rfl)
      | (apply k1 (hd := rfl); exact rfl; exact rfl)
      | (apply k0 (hd := rfl); exact rfl; exact rfl)
      | (apply gD; exact rfl; exact rfl; (intro hb); rotate_left; (intro hb); rotate_right)
      | (apply gN; exact rfl; exact rfl; (intro hb); rotate_left; (intro hb); rotate_right)
      | (apply g1; exact rfl; exact rfl; (intro hb); rotate_left; (intro hb); rotate_right)
      | (refine w0' ?_)
      | (apply aStore; exact rfl; exact rfl; exact rfl; exact (by first | exact tc_int | exact tc_nodes | exact tc_node | exact tc_ints | exact tc_kind | exact tc_i64 | exact tc_str | exact tc_bool); exact rfl; exact rfl; exact rfl; exact rfl)
      | (apply awp_condD; exact rfl; (intro hb); rotate_left; (intro hb); rotate_right)
      | (apply awp_condN; exact rfl; (intro hb); rotate_left; (intro hb); rotate_right)
      | (apply awp_condT; exact rfl)
      | (apply awp_condF; exact rfl)
      | (apply awp_cond; exact rfl; (intro hb); rotate_left; (intro hb); rotate_right)
      | refine awp_block ?_
      | refine awp_skip ?_
      | refine awp_ret ?_
      | refine awp_exit ?_
      | refine awp_label ?_
      | refine awp_goto ?_
      | refine awp_draw (by kernel_rfl) (by kernel_rfl) ?_
      | refine en_r ?_
      | refine en_e ?_
      | refine eb_n ?_
      | refine eb_r ?_
      | refine eb_e ?_
      | refine eb_o rfl ?_
      | refine en_g ?_
      | refine eb_g ?_
      | refine ej_n ?_
      | refine ej_r ?_
      | refine ej_e ?_
      | refine ej_g ?_
      | refine rpost_ret ?_
      | (apply res1; exact rfl)
      | (apply res1n; exact rfl)
      | (apply res1b; exact rfl; exact rfl; (first | exact rfl | (simp; done)))
      | (apply res2; exact rfl; exact rfl)
      | (apply res2n; exact rfl; exact rfl)
      | (apply res2b; exact rfl; exact rfl; (first | exact rfl | (simp; done)); exact rfl)
      | exact CoL_nil
      | refine CoL_d rfl ?_
      | refine CoL_b rfl rfl rfl ?_
      | refine CoL_n rfl ?_
      | refine CoL_v rfl ?_
    · simp only [List.length_map, List.length_range] at hb ⊢; omega
    · omega
    · obtain ⟨h2, h3, h4⟩ := hnx hv
      subst h3
      exact ⟨i + 1, h2, by omega, Fits_mk (Le_cons rfl (Le_cons rfl (Le_cons rfl (Le_cons rfl Le_nil)))) Pre_nil rfl rfl⟩
    · simp only [List.length_map, List.length_range] at hb
      rw [show i = n.kids.toNat by omega]
end Go.Proofs.Ytcjakkbanlgafaa
/- The layout statements: the walk of the reference's lay, and Layout. -/
namespace Go.Proofs.Ytcjakkbanlgafaa
open Go.Sx Go.RowKit Go.Lib
attribute [local irreducible] Ylds astep alex alexE alexD awp PCall FCall RCall MCall QCall athen ablock ajump rpost fpost mpost

theorem u_u8 : Try.prog.underlying 5 = some (.int .u8) := by kernel_rfl
abbrev P0 (c : Nat) : Pen := ⟨false, [], c, 0⟩
theorem Bd_P0 {c k : Nat} (h : c ≤ 200000 * k) : Bd (P0 c) k := ⟨Nat.zero_le _, h, Nat.zero_le _⟩

/-- the kids' loop of the reference -/
theorem kidsP_next {L : List Nd} {w m k ind c i : Nat} (hr : ∀ n ∈ L, rightF n = true) (fl : Bool) : (kidsP (fun t q => layN L w m t ind fl q) L ((k : Int) + 1) (i + 1) (P0 c)).out = (kidsP (fun t q => layN L w m t ind fl q) L ((k : Int) + 1) i (P0 c)).out ++ (layN L w m (seqE L ((k : Int) + 1) i).toNat ind fl (P0 (kidsP (fun t q => layN L w m t ind fl q) L ((k : Int) + 1) i (P0 c)).col)).out :=
  (layN_shf (w := w) hr m (seqE L ((k : Int) + 1) i).toNat ind fl (kidsP (fun t q => layN L w m t ind fl q) L ((k : Int) + 1) i (P0 c))).1
theorem kidsP_col {L : List Nd} {w m k ind c i : Nat} (hr : ∀ n ∈ L, rightF n = true) (fl : Bool) : colF (kidsP (fun t q => layN L w m t ind fl q) L ((k : Int) + 1) i (P0 c)).out c = (kidsP (fun t q => layN L w m t ind fl q) L ((k : Int) + 1) i (P0 c)).col :=
  (kidsP_shf (fun t => layN_shf (w := w) hr m t ind fl) L ((k : Int) + 1) i (P0 c)).2.2.symm

def RLayC (L : List Nd) (w m : Nat) : Prop := ∀ (at_ : Int) (c ind : Nat), (L.length : Int) ≤ m + at_ → 0 ≤ endF L at_ → (c : Int) ≤ 200000 * at_ → (ind : Int) ≤ 40 * at_ → PCall Try.prog 31 [nodes L, i64 at_, i64 c, i64 ind, i64 w] (str (layN L w m at_.toNat ind false (P0 c)).out)

set_option maxHeartbeats 4000000 in
theorem rlay_ok {L : List Nd} {w : Nat} (hD : Doc L) (_hw : w ≤ 100000000) : ∀ m, RLayC L w m := by
  have hlen := hD.len
  intro m
  induction m with
  | zero =>
    intro at_ c ind hm he
    have := endF_bd L at_; omega
  | succ m ih =>
    intro at_ c ind hm he hc hind
    obtain ⟨k, rfl⟩ : ∃ k : Nat, at_ = k := ⟨at_.toNat, by have := endF_bd L at_; omega⟩
    obtain ⟨n, hn⟩ := node_at he
    obtain ⟨k1, k2, k3, k4⟩ := node_end hn he
    have hk := (List.getElem?_eq_some_iff.1 hn).1
    have hrn := hD.right n (List.mem_of_getElem? hn)
    have hsz := sizeF_le hD.text L.length
    rw [List.take_length] at hsz
    have hfl := flN_len hD.right (m + 1) k (by omega) he
    have hple := part_le L k (endF L k).toNat
    have hkids := rKids_ok L k (by omega)
    rw [kids_map hn he] at hkids
    have y41 : n.kind = 41 → (layN L w (m + 1) k ind false (P0 c)).out = n.text := fun h => by simp [layN, hn, h, right_kids hrn (.inl h), kidsP, Pen.put]
    have y42 : n.kind = 42 → (layN L w (m + 1) k ind false (P0 c)).out = 10 :: List.replicate ind 32 := fun h => by simp [layN, hn, h, right_kids hrn (.inr h), kidsP, Pen.feed]
    have y43 : n.kind = 43 → layN L w (m + 1) k ind false (P0 c) = kidsP (fun t q => layN L w m t (ind + n.num.toNat) false q) L ((k : Int) + 1) n.kids.toNat (P0 c) := fun h => by simp [layN, hn, h]
    have y44t : n.kind = 44 → c + (flN L (m + 1) k).length ≤ w → (layN L w (m + 1) k ind false (P0 c)).out = flN L (m + 1) k := fun h h2 => by
      rw [hfl] at h2
      have h3 : c + sizeF (List.drop k (List.take (endF L k).toNat L)) ≤ w := h2
      simp only [layN, hn, h, flN, Bool.false_or, decide_eq_true h3]
      rw [if_neg (by omega), if_neg (by omega), if_neg (by omega), if_pos trivial, if_neg (by omega), if_neg (by omega)]
      exact kidsP_wr (fun t => layN_true hD.right m t ind) L _ _ (P0 c)
    have y44f : n.kind = 44 → ¬ c + (flN L (m + 1) k).length ≤ w → layN L w (m + 1) k ind false (P0 c) = kidsP (fun t q => layN L w m t ind false q) L ((k : Int) + 1) n.kids.toNat (P0 c) := fun h h2 => by
      rw [hfl] at h2
      have h3 : ¬ c + sizeF (List.drop k (List.take (endF L k).toNat L)) ≤ w := h2
      simp only [layN, hn, h, Bool.false_or, decide_eq_false h3]
      rw [if_neg (by omega), if_neg (by omega), if_neg (by omega), if_pos trivial]
    have y45 : n.kind ≠ 41 → n.kind ≠ 42 → n.kind ≠ 43 → n.kind ≠ 44 → layN L w (m + 1) k ind false (P0 c) = kidsP (fun t q => layN L w m t ind false q) L ((k : Int) + 1) n.kids.toNat (P0 c) := fun h1 h2 h3 h4 => by simp [layN, hn, h1, h2, h3, h4]
    have hrf := rFlat_ok hD (m + 1) k (by omega) he
    rw [Int.toNat_natCast] at hrf
    have hnum : n.kind = 43 → 0 ≤ n.num ∧ n.num ≤ 40 := right_num hrn
    refine pcall_of Try.func31 rfl Try.ntmps31 Try.results31 rfl ?_
    intro wb St0
    rw [Int.toNat_natCast]
    repeat' first
      | refine en_n ?_
      | refine awp_seq ?_
      | refine awp_region ?_
      | refine alex_nil ?_
      | refine w0 ?_
      | (apply Y_lssT; exact rfl; exact rfl; first
      | assumption
      | omega)
      | (apply Y_lssF; exact rfl; exact rfl; first
      | assumption
      | omega)
      | (apply Y_leqT; exact rfl; exact rfl; first
      | assumption
      | omega)
      | (apply Y_leqF; exact rfl; exact rfl; first
      | assumption
      | omega)
      | (apply Y_gtrT; exact rfl; exact rfl; first
      | assumption
      | omega)
      | (apply Y_gtrF; exact rfl; exact rfl; first
      | assumption
      | omega)
      | (apply Y_geqT; exact rfl; exact rfl; first
      | assumption
      | omega)
      | (apply Y_geqF; exact rfl; exact rfl; first
      | assumption
      | omega)
      | (apply Y_eqlT; exact rfl; exact rfl; first
      | assumption
      | omega)
      | (apply Y_eqlF; exact rfl; exact rfl; first
      | assumption
      | omega)
      | (apply Y_neqT; exact rfl; exact rfl; first
      | assumption
      | omega)
      | (apply Y_neqF; exact rfl; exact rfl; first
      | assumption
      | omega)
      | (apply Y_len_l; exact rfl; exact ustr)
      | (apply Y_eqs; exact rfl; exact rfl)
      | (apply Y_neqs; exact rfl; exact rfl)
      | (apply Y_cat_l; exact rfl; exact rfl; omega)
      | (apply Y_idx_l; exact rfl; exact rfl; exact ustr; (first
      | assumption
      | omega))
      | (apply Y_sub_l; exact rfl; exact rfl; exact rfl; exact ustr; (first
      | assumption
      | omega))
      | (apply Y_call (hb := hb_rKids) (hc := hkids))
      | (apply Y_call (hb := hb_rFlat) (hc := hrf))
      | (apply Y_b2s (ns := [_]); exact rfl; exact up_by; exact u_u8; exact ustr; exact (by simp))
      | (apply aJ (hd := rfl); (first | exact Co_dd rfl | exact Co_bb rfl rfl rfl | exact Co_nn rfl); exact rfl; exact (by first | exact es_nodes | exact es_ints | exact es_nodess | exact es_by); assumption; omega; exact fun _ => rfl)
      | (apply aI (hd := rfl); (first | exact Co_dd rfl | exact Co_bb rfl rfl rfl | exact Co_nn rfl); exact rfl; exact (by first | exact es_nodes | exact es_ints | exact es_nodess | exact es_by); exact fun _ => rfl; rotate_left; intro v hv; rotate_right)
      | (apply aApp (hd := rfl) (hro := rfl); exact rfl; exact rfl; (first | exact Co_dd rfl | exact Co_bb rfl rfl rfl | exact Co_nn rfl); (first | exact rfl | (simp; done)); exact rfl; exact (by first | exact ety_nodes | exact ety_ints | exact ety_nodess | exact ety_by); exact (by first | exact es_nodes | exact es_ints | exact es_nodess | exact es_by); exact (by first | exact zl_node | exact zl_int | exact zl_nodes | exact zl_u8); exact (by first | exact by_nodes | exact by_ints | exact by_nodess | exact by_by); (first | exact sz_map (fun _ => rfl) | exact sz_lit rfl))
      | (apply aBox (hd := rfl) (hro := rfl); exact rfl; exact rfl)
      | (apply aAlloc (hd := rfl) (hro := rfl); exact (by first | exact zo_node | exact zo_int))
      | apply ay (hd := rfl)
      | (apply Y_move_d; exact rfl)
      | (apply Y_assign_d; exact rfl)
      | (apply Y_field_r; exact rfl; exact (by first | exact fo_0 | exact fo_1 | exact fo_2 | exact fo_3 | exact pf_0 | exact pf_1 | exact pf_2 | exact bf_0 | exact bf_1))
      | (apply Y_load_r1; exact rfl; exact (by first | exact tc_int | exact tc_nodes | exact tc_node | exact tc_ints | exact tc_kind | exact tc_i64 | exact tc_str | exact tc_bool | exact tc_ad | exact tc_by | exact tc_cx))
      | (apply Y_load_r; exact rfl; exact (by first | exact tc_int | exact tc_nodes | exact tc_node | exact tc_ints | exact tc_kind | exact tc_i64 | exact tc_str | exact tc_bool | exact tc_ad | exact tc_by | exact tc_cx); exact rfl)
      | (apply Y_len_m; exact rfl; exact (by first | exact et_nodes | exact et_ints | exact et_nodess | exact et_by))
      | (apply Y_len_d; exact rfl; exact (by first | exact et_nodes | exact et_ints | exact et_nodess | exact et_by))
      | (apply Y_lss; exact rfl; exact rfl)
      | (apply Y_leq; exact rfl; exact rfl)
      | (apply Y_gtr; exact rfl; exact rfl)
      | (apply Y_geq; exact rfl; exact rfl)
      | (apply Y_eql; exact rfl; exact rfl)
      | (apply Y_neq; exact rfl; exact rfl)
      | (apply Y_add; exact rfl; exact rfl)
      | (apply Y_sub; exact rfl; exact rfl)
      | (apply Y_mul; exact rfl; exact rfl)
      | (apply Y_not; exact rfl)
      | (apply Y_pick_t; exact rfl; exact rfl)
      | (apply Y_pick_f; exact rfl; exact rfl)
      | (apply Y_extract; exact rfl; exact rfl)
      | (apply Y_max; exact rfl; exact rfl)
      | (apply Y_move_nil; exact rfl)
      | (apply Y_assign_nil; exact rfl)
      | (apply Y_move_buf; exact rfl)
      | (apply Y_assign_buf; exact rfl)
      | (apply Y_len_buf; exact rfl; exact (by first | exact et_nodes | exact et_ints | exact et_nodess | exact et_by))
      | (apply Y_len_nil; exact rfl; exact (by first | exact et_nodes | exact et_ints | exact et_nodess | exact et_by))
      | (apply Y_move_ptr; exact rfl)
      | (apply Y_assign_ptr; exact rfl)
      | (apply Y_move_clo; exact rfl)
      | (apply Y_assign_clo; exact rfl)
      | (apply Y_field_p; exact rfl; exact (by first | exact fo_0 | exact fo_1 | exact fo_2 | exact fo_3 | exact pf_0 | exact pf_1 | exact pf_2 | exact bf_0 | exact bf_1))
      | (apply Y_load_p; exact rfl; exact (by first | exact tc_int | exact tc_nodes | exact tc_node | exact tc_ints | exact tc_kind | exact tc_i64 | exact tc_str | exact tc_bool | exact tc_ad | exact tc_by | exact tc_cx); exact rfl; exact rfl)
      | (apply Y_load_pa; exact rfl; exact (by first | exact tc_int | exact tc_nodes | exact tc_node | exact tc_ints | exact tc_kind | exact tc_i64 | exact tc_str | exact tc_bool | exact tc_ad | exact tc_by | exact tc_cx); exact rfl; exact rfl; exact rfl)
      | (apply Y_sl; (first | exact Co_dd rfl | exact Co_bb rfl rfl rfl | exact Co_nn rfl); exact (by first | exact es_nodes | exact es_ints | exact es_nodess | exact es_by); exact rfl; exact rfl; exact fun _ => rfl)
      | (apply Y_sl_l; (first | exact Co_dd rfl | exact Co_bb rfl rfl rfl | exact Co_nn rfl); exact (by first | exact es_nodes | exact es_ints | exact es_nodess | exact es_by); exact rfl; exact fun _ => rfl)
      | (apply Y_sl_h; (first | exact Co_dd rfl | exact Co_bb rfl rfl rfl | exact Co_nn rfl); exact (by first | exact es_nodes | exact es_ints | exact es_nodess | exact es_by); exact rfl; exact fun _ => rfl)
      | (apply Y_lit0; exact (by first | exact ety_nodes | exact ety_ints | exact ety_nodess | exact ety_by); exact (by first | exact es_nodes | exact es_ints | exact es_nodess | exact es_by); exact (by first | exact zs_node | exact zs_int | exact zs_nodes | exact zs_u8); exact rfl)
      | (apply Y_lit1; exact (by first | exact ety_nodes | exact ety_ints | exact ety_nodess | exact ety_by); exact (by first | exact es_nodes | exact es_ints | exact es_nodess | exact es_by); exact (by first | exact zs_node | exact zs_int | exact zs_nodes | exact zs_u8); exact rfl; exact rfl; (first | exact CoL_d rfl CoL_nil | exact CoL_b rfl rfl rfl CoL_nil | exact CoL_n rfl CoL_nil); exact rfl)
      | (apply Y_lit2; exact (by first | exact ety_nodes | exact ety_ints | exact ety_nodess | exact ety_by); exact (by first | exact es_nodes | exact es_ints | exact es_nodess | exact es_by); exact (by first | exact zs_node | exact zs_int | exact zs_nodes | exact zs_u8); exact rfl; exact rfl; (first | exact CoL_d rfl (CoL_d rfl CoL_nil) | exact CoL_b rfl rfl rfl (CoL_b rfl rfl rfl CoL_nil)); exact rfl)
      | (apply Y_lit3; exact (by first | exact ety_nodes | exact ety_ints | exact ety_nodess | exact ety_by); exact (by first | exact es_nodes | exact es_ints | exact es_nodess | exact es_by); exact (by first | exact zs_node | exact zs_int | exact zs_nodes | exact zs_u8); exact rfl; exact rfl; (exact CoL_d rfl (CoL_d rfl (CoL_d rfl CoL_nil))); exact rfl)
      | (apply Y_lit4; exact (by first | exact ety_nodes | exact ety_ints | exact ety_nodess | exact ety_by); exact (by first | exact es_nodes | exact es_ints | exact es_nodess | exact es_by); exact (by first | exact zs_node | exact zs_int | exact zs_nodes | exact zs_u8); exact rfl; exact rfl; (exact CoL_d rfl (CoL_d rfl (CoL_d rfl (CoL_d rfl CoL_nil)))); exact rfl)
      | (apply Y_mkf; exact rfl)
      | (apply w1; exact rfl; exact rfl)
      | (apply k1 (hd := rfl); exact rfl; exact rfl)
      | (apply k0 (hd := rfl); exact rfl; exact rfl)
      | (apply gD; exact rfl; exact rfl; (intro hb); rotate_left; (intro hb); rotate_right)
      | (apply gN; exact rfl; exact rfl; (intro hb); rotate_left; (intro hb); rotate_right)
      | (apply g1; exact rfl; exact rfl; (intro hb); rotate_left; (intro hb); rotate_right)
      | (refine w0' ?_)
      | (apply aStore; exact rfl; exact rfl; exact rfl; exact (by first | exact tc_int | exact tc_nodes | exact tc_node | exact tc_ints | exact tc_kind | exact tc_i64 | exact tc_str | exact tc_bool | exact tc_ad | exact tc_by | exact tc_cx); exact rfl; exact rfl; exact rfl; exact rfl)
      | (apply awp_condD; exact rfl; (intro hb); rotate_left; (intro hb); rotate_right)
      | (apply awp_condN; exact rfl; (intro hb); rotate_left; (intro hb); rotate_right)
      | (apply awp_condT; exact rfl)
      | (apply awp_condF; exact rfl)
      | (apply awp_cond; exact rfl; (intro hb); rotate_left; (intro hb); rotate_right)
      | refine awp_block ?_
      | refine awp_skip ?_
      | refine awp_ret ?_
      | refine awp_exit ?_
      | refine awp_label ?_
      | refine awp_goto ?_
      | refine awp_draw (by kernel_rfl) (by kernel_rfl) ?_
      | refine en_r ?_
      | refine en_e ?_
      | refine eb_n ?_
      | refine eb_r ?_
      | refine eb_e ?_
      | refine eb_o rfl ?_
      | refine en_g ?_
      | refine eb_g ?_
      | refine ej_n ?_
      | refine ej_r ?_
      | refine ej_e ?_
      | refine ej_g ?_
      | refine rpost_ret ?_
      | (apply res1; exact rfl)
      | (apply res1n; exact rfl)
      | (apply res1b; exact rfl; exact rfl; (first | exact rfl | (simp; done)))
      | (apply res2; exact rfl; exact rfl)
      | (apply res2n; exact rfl; exact rfl)
      | (apply res2b; exact rfl; exact rfl; (first | exact rfl | (simp; done)); exact rfl)
      | exact CoL_nil
      | refine CoL_d rfl ?_
      | refine CoL_b rfl rfl rfl ?_
      | refine CoL_n rfl ?_
      | refine CoL_v rfl ?_
    · rw [y41 hb]
    · refine awp_loopF (α := Nat) (fun i => i ≤ ind) (fun i => [(3, .d (i64 ind)), (12, .d (str (10 :: List.replicate i 32))), (13, .d (i64 (i : Int)))]) (fun _ => []) (fun i => ind - i) 0 (Nat.zero_le _)
        (Fits_mk (Le_cons rfl (Le_cons rfl (Le_cons rfl Le_nil))) Pre_nil rfl rfl) ?_
      intro i hi
      have e0 : (10 :: List.replicate i (32 : UInt8)).length = i + 1 := by simp
      repeat' first
        | refine en_n ?_
        | refine awp_seq ?_
        | refine awp_region ?_
        | refine alex_nil ?_
        | refine w0 ?_
        | (apply Y_cat_l; exact rfl; exact rfl; exact (by rw [e0]; simp only [List.length_singleton]; omega))
        | (apply Y_len_l; exact rfl; exact ustr)
        | (apply Y_eqs; exact rfl; exact rfl)
        | (apply Y_neqs; exact rfl; exact rfl)
        | (apply Y_cat_l; exact rfl; exact rfl; omega)
        | (apply Y_idx_l; exact rfl; exact rfl; exact ustr; (first
        | assumption
        | omega))
        | (apply Y_sub_l; exact rfl; exact rfl; exact rfl; exact ustr; (first
        | assumption
        | omega))
        | (apply aJ (hd := rfl); (first | exact Co_dd rfl | exact Co_bb rfl rfl rfl | exact Co_nn rfl); exact rfl; exact (by first | exact es_nodes | exact es_ints | exact es_nodess | exact es_by); assumption; omega; exact fun _ => rfl)
        | (apply aI (hd := rfl); (first | exact Co_dd rfl | exact Co_bb rfl rfl rfl | exact Co_nn rfl); exact rfl; exact (by first | exact es_nodes | exact es_ints | exact es_nodess | exact es_by); exact fun _ => rfl; rotate_left; intro v hv; rotate_right)
        | (apply aApp (hd := rfl) (hro := rfl); exact rfl; exact rfl; (first | exact Co_dd rfl | exact Co_bb rfl rfl rfl | exact Co_nn rfl); (first | exact rfl | (simp; done)); exact rfl; exact (by first | exact ety_nodes | exact ety_ints | exact ety_nodess | exact ety_by); exact (by first | exact es_nodes | exact es_ints | exact es_nodess | exact es_by); exact (by first | exact zl_node | exact zl_int | exact zl_nodes | exact zl_u8); exact (by first | exact by_nodes | exact by_ints | exact by_nodess | exact by_by); (first | exact sz_map (fun _ => rfl) | exact sz_lit rfl))
        | (apply aBox (hd := rfl) (hro := rfl); exact rfl; exact rfl)
        | (apply aAlloc (hd := rfl) (hro := rfl); exact (by first | exact zo_node | exact zo_int))
        | apply ay (hd := rfl)
        | (apply Y_move_d; exact rfl)
        | (apply Y_assign_d; exact rfl)
        | (apply Y_field_r; exact rfl; exact (by first | exact fo_0 | exact fo_1 | exact fo_2 | exact fo_3 | exact pf_0 | exact pf_1 | exact pf_2 | exact bf_0 | exact bf_1))
        | (apply Y_load_r1; exact rfl; exact (by first | exact tc_int | exact tc_nodes | exact tc_node | exact tc_ints | exact tc_kind | exact tc_i64 | exact tc_str | exact tc_bool | exact tc_ad | exact tc_by | exact tc_cx))
        | (apply Y_load_r; exact rfl; exact (by first | exact tc_int | exact tc_nodes | exact tc_node | exact tc_ints | exact tc_kind | exact tc_i64 | exact tc_str | exact tc_bool | exact tc_ad | exact tc_by | exact tc_cx); exact rfl)
        | (apply Y_len_m; exact rfl; exact (by first | exact et_nodes | exact et_ints | exact et_nodess | exact et_by))
        | (apply Y_len_d; exact rfl; exact (by first | exact et_nodes | exact et_ints | exact et_nodess | exact et_by))
        | (apply Y_lss; exact rfl; exact rfl)
        | (apply Y_leq; exact rfl; exact rfl)
        | (apply Y_gtr; exact rfl; exact rfl)
        | (apply Y_geq; exact rfl; exact rfl)
        | (apply Y_eql; exact rfl; exact rfl)
        | (apply Y_neq; exact rfl; exact rfl)
        | (apply Y_add; exact rfl; exact rfl)
        | (apply Y_sub; exact rfl; exact rfl)
        | (apply Y_mul; exact rfl; exact rfl)
        | (apply Y_not; exact rfl)
        | (apply Y_pick_t; exact rfl; exact rfl)
        | (apply Y_pick_f; exact rfl; exact rfl)
        | (apply Y_extract; exact rfl; exact rfl)
        | (apply Y_max; exact rfl; exact rfl)
        | (apply Y_move_nil; exact rfl)
        | (apply Y_assign_nil; exact rfl)
        | (apply Y_move_buf; exact rfl)
        | (apply Y_assign_buf; exact rfl)
        | (apply Y_len_buf; exact rfl; exact (by first | exact et_nodes | exact et_ints | exact et_nodess | exact et_by))
        | (apply Y_len_nil; exact rfl; exact (by first | exact et_nodes | exact et_ints | exact et_nodess | exact et_by))
        | (apply Y_move_ptr; exact rfl)
        | (apply Y_assign_ptr; exact rfl)
        | (apply Y_move_clo; exact rfl)
        | (apply Y_assign_clo; exact rfl)
        | (apply Y_field_p; exact rfl; exact (by first | exact fo_0 | exact fo_1 | exact fo_2 | exact fo_3 | exact pf_0 | exact pf_1 | exact pf_2 | exact bf_0 | exact bf_1))
        | (apply Y_load_p; exact rfl; exact (by first | exact tc_int | exact tc_nodes | exact tc_node | exact tc_ints | exact tc_kind | exact tc_i64 | exact tc_str | exact tc_bool | exact tc_ad | exact tc_by | exact tc_cx); exact rfl; exact rfl)
        | (apply Y_load_pa; exact rfl; exact (by first | exact tc_int | exact tc_nodes | exact tc_node | exact tc_ints | exact tc_kind | exact tc_i64 | exact tc_str | exact tc_bool | exact tc_ad | exact tc_by | exact tc_cx); exact rfl; exact rfl; exact rfl)
        | (apply Y_sl; (first | exact Co_dd rfl | exact Co_bb rfl rfl rfl | exact Co_nn rfl); exact (by first | exact es_nodes | exact es_ints | exact es_nodess | exact es_by); exact rfl; exact rfl; exact fun _ => rfl)
        | (apply Y_sl_l; (first | exact Co_dd rfl | exact Co_bb rfl rfl rfl | exact Co_nn rfl); exact (by first | exact es_nodes | exact es_ints | exact es_nodess | exact es_by); exact rfl; exact fun _ => rfl)
        | (apply Y_sl_h; (first | exact Co_dd rfl | exact Co_bb rfl rfl rfl | exact Co_nn rfl); exact (by first | exact es_nodes | exact es_ints | exact es_nodess | exact es_by); exact rfl; exact fun _ => rfl)
        | (apply Y_lit0; exact (by first | exact ety_nodes | exact ety_ints | exact ety_nodess | exact ety_by); exact (by first | exact es_nodes | exact es_ints | exact es_nodess | exact es_by); exact (by first | exact zs_node | exact zs_int | exact zs_nodes | exact zs_u8); exact rfl)
        | (apply Y_lit1; exact (by first | exact ety_nodes | exact ety_ints | exact ety_nodess | exact ety_by); exact (by first | exact es_nodes | exact es_ints | exact es_nodess | exact es_by); exact (by first | exact zs_node | exact zs_int | exact zs_nodes | exact zs_u8); exact rfl; exact rfl; (first | exact CoL_d rfl CoL_nil | exact CoL_b rfl rfl rfl CoL_nil | exact CoL_n rfl CoL_nil); exact rfl)
        | (apply Y_lit2; exact (by first | exact ety_nodes | exact ety_ints | exact ety_nodess | exact ety_by); exact (by first | exact es_nodes | exact es_ints | exact es_nodess | exact es_by); exact (by first | exact zs_node | exact zs_int | exact zs_nodes | exact zs_u8); exact rfl; exact rfl; (first | exact CoL_d rfl (CoL_d rfl CoL_nil) | exact CoL_b rfl rfl rfl (CoL_b rfl rfl rfl CoL_nil)); exact rfl)
        | (apply Y_lit3; exact (by first | exact ety_nodes | exact ety_ints | exact ety_nodess | exact ety_by); exact (by first | exact es_nodes | exact es_ints | exact es_nodess | exact es_by); exact (by first | exact zs_node | exact zs_int | exact zs_nodes | exact zs_u8); exact rfl; exact rfl; (exact CoL_d rfl (CoL_d rfl (CoL_d rfl CoL_nil))); exact rfl)
        | (apply Y_lit4; exact (by first | exact ety_nodes | exact ety_ints | exact ety_nodess | exact ety_by); exact (by first | exact es_nodes | exact es_ints | exact es_nodess | exact es_by); exact (by first | exact zs_node | exact zs_int | exact zs_nodes | exact zs_u8); exact rfl; exact rfl; (exact CoL_d rfl (CoL_d rfl (CoL_d rfl (CoL_d rfl CoL_nil)))); exact rfl)
        | (apply Y_mkf; exact rfl)
        | (apply w1; exact rfl; exact rfl)
        | (apply k1 (hd := rfl); exact rfl; exact rfl)
        | (apply k0 (hd := rfl); exact rfl; exact rfl)
        | (apply gD; exact rfl; exact rfl; (intro hb); rotate_left; (intro hb); rotate_right)
        | (apply gN; exact rfl; exact rfl; (intro hb); rotate_left; (intro hb); rotate_right)
        | (apply g1; exact rfl; exact rfl; (intro hb); rotate_left; (intro hb); rotate_right)
        | (refine w0' ?_)
        | (apply aStore; exact rfl; exact rfl; exact rfl; exact (by first | exact tc_int | exact tc_nodes | exact tc_node | exact tc_ints | exact tc_kind | exact tc_i64 | exact tc_str | exact tc_bool | exact tc_ad | exact tc_by | exact tc_cx); exact rfl; exact rfl; exact rfl; exact rfl)
        | (apply awp_condD; exact rfl; (intro hb); rotate_left; (intro hb); rotate_right)
        | (apply awp_condN; exact rfl; (intro hb); rotate_left; (intro hb); rotate_right)
        | (apply awp_condT; exact rfl)
        | (apply awp_condF; exact rfl)
        | (apply awp_cond; exact rfl; (intro hb); rotate_left; (intro hb); rotate_right)
        | refine awp_block ?_
        | refine awp_skip ?_
        | refine awp_ret ?_
        | refine awp_exit ?_
        | refine awp_label ?_
        | refine awp_goto ?_
        | refine awp_draw (by kernel_rfl) (by kernel_rfl) ?_
        | refine en_r ?_
        | refine en_e ?_
        | refine eb_n ?_
        | refine eb_r ?_
        | refine eb_e ?_
        | refine eb_o rfl ?_
        | refine en_g ?_
        | refine eb_g ?_
        | refine ej_n ?_
        | refine ej_r ?_
        | refine ej_e ?_
        | refine ej_g ?_
        | refine rpost_ret ?_
        | (apply res1; exact rfl)
        | (apply res1n; exact rfl)
        | (apply res1b; exact rfl; exact rfl; (first | exact rfl | (simp; done)))
        | (apply res2; exact rfl; exact rfl)
        | (apply res2n; exact rfl; exact rfl)
        | (apply res2b; exact rfl; exact rfl; (first | exact rfl | (simp; done)); exact rfl)
        | exact CoL_nil
        | refine CoL_d rfl ?_
        | refine CoL_b rfl rfl rfl ?_
        | refine CoL_n rfl ?_
        | refine CoL_v rfl ?_
      · omega
      · refine ⟨i + 1, by omega, by omega, Fits_mk (Le_cons rfl (Le_d rfl ?_ (Le_cons rfl Le_nil))) Pre_nil rfl rfl⟩
        rw [List.replicate_succ', List.cons_append]
      · rw [y42 (by assumption), show i = ind by omega]
    · omega
    · have h43 := hb
      obtain ⟨n1, n2⟩ := hnum h43
      have hst := fun i hi => kidsP_bd (f := fun t q => layN L w m t (ind + n.num.toNat) false q) hn he (fun t q h3 h4 h5 => layN_bd hD m t (ind + n.num.toNat) false q h4 (by omega) h5) (Bd_P0 (c := c) (k := k + 1) (by omega)) i hi
      refine awp_loopF (α := Nat) (fun i => i ≤ n.kids.toNat) (fun i => [(0, .d (nodes L)), (2, .d (i64 c)), (3, .d (i64 ((ind + n.num.toNat : Nat) : Int))), (4, .d (i64 w)), (15, .d (str (kidsP (fun t q => layN L w m t (ind + n.num.toNat) false q) L ((k : Int) + 1) i (P0 c)).out)), (16, .d (ints ((List.range n.kids.toNat).map (seqE L ((k : Int) + 1))))), (17, .d (i64 (i : Int)))]) (fun _ => []) (fun i => n.kids.toNat - i) 0 (Nat.zero_le _)
        (Fits_mk (Le_cons rfl (Le_cons rfl (Le_d rfl (i64_eq (by omega)) (Le_cons rfl (Le_cons rfl (Le_cons rfl (Le_cons rfl Le_nil))))))) Pre_nil rfl rfl) ?_
      intro i hi
      obtain ⟨q1, q2, _⟩ := hst i hi
      have hs := k4 i hi
      have hsb := seqE_bd hs hk
      have hcol := kidsP_col (L := L) (w := w) (m := m) (k := k) (ind := ind + n.num.toNat) (c := c) (i := i) hD.right false
      have hnxt := kidsP_next (L := L) (w := w) (m := m) (k := k) (ind := ind + n.num.toNat) (c := c) (i := i) hD.right false
      have hnx : ∀ {v : Int}, ((List.range n.kids.toNat).map (seqE L ((k : Int) + 1)))[((i : Int)).toNat]? = some v → i < n.kids.toNat ∧ v = seqE L ((k : Int) + 1) i ∧ 0 ≤ endF L v := by
        intro v hv
        obtain ⟨h2, h3⟩ := map_at (i := i) hv
        have := k4 (i + 1) (by omega)
        rw [seqE_succ hs, ← h3] at this
        exact ⟨h2, h3, this⟩
      generalize hK : (kidsP (fun t q => layN L w m t (ind + n.num.toNat) false q) L ((k : Int) + 1) i (P0 c)) = q at q1 q2 hcol hnxt ⊢
      have hcall : ∀ {v : Int}, ((List.range n.kids.toNat).map (seqE L ((k : Int) + 1)))[((i : Int)).toNat]? = some v → PCall Try.prog 31 [nodes L, i64 v, i64 (colF q.out c), i64 ((ind + n.num.toNat : Nat) : Int), i64 w] (str (layN L w m v.toNat (ind + n.num.toNat) false (P0 q.col)).out) := by
        intro v hv
        obtain ⟨h2, h3, h4⟩ := hnx hv
        rw [hcol]
        exact ih v q.col (ind + n.num.toNat) (by omega) h4 (by omega) (by omega)
      have hcat : ∀ {v : Int}, ((List.range n.kids.toNat).map (seqE L ((k : Int) + 1)))[((i : Int)).toNat]? = some v → (q.out.length : Int) + (layN L w m v.toNat (ind + n.num.toNat) false (P0 q.col)).out.length ≤ 9223372036854775807 := by
        intro v hv
        obtain ⟨h2, h3, h4⟩ := hnx hv
        obtain ⟨r1, _, _⟩ := hst (i + 1) (by omega)
        rw [hnxt, List.length_append, ← h3] at r1
        have h5 := k4 (i + 1) (by omega)
        have := seqE_bd h5 hk
        omega
      repeat' first
        | refine en_n ?_
        | refine awp_seq ?_
        | refine awp_region ?_
        | refine alex_nil ?_
        | refine w0 ?_
        | (apply Y_cat_l; exact rfl; exact rfl; exact hcat hv)
        | (apply Y_len_l; exact rfl; exact ustr)
        | (apply Y_eqs; exact rfl; exact rfl)
        | (apply Y_neqs; exact rfl; exact rfl)
        | (apply Y_cat_l; exact rfl; exact rfl; omega)
        | (apply Y_idx_l; exact rfl; exact rfl; exact ustr; (first
        | assumption
        | omega))
        | (apply Y_sub_l; exact rfl; exact rfl; exact rfl; exact ustr; (first
        | assumption
        | omega))
        | (apply Y_call (hb := hb_rlay) (hc := hcall hv))
        | (apply Y_call (hb := hb_column) (hc := column_ok q.out c (by omega) (by omega)))
        | (apply aJ (hd := rfl); (first | exact Co_dd rfl | exact Co_bb rfl rfl rfl | exact Co_nn rfl); exact rfl; exact (by first | exact es_nodes | exact es_ints | exact es_nodess | exact es_by); assumption; omega; exact fun _ => rfl)
        | (apply aI (hd := rfl); (first | exact Co_dd rfl | exact Co_bb rfl rfl rfl | exact Co_nn rfl); exact rfl; exact (by first | exact es_nodes | exact es_ints | exact es_nodess | exact es_by); exact fun _ => rfl; rotate_left; intro v hv; rotate_right)
        | (apply aApp (hd := rfl) (hro := rfl); exact rfl; exact rfl; (first | exact Co_dd rfl | exact Co_bb rfl rfl rfl | exact Co_nn rfl); (first | exact rfl | (simp; done)); exact rfl; exact (by first | exact ety_nodes | exact ety_ints | exact ety_nodess | exact ety_by); exact (by first | exact es_nodes | exact es_ints | exact es_nodess | exact es_by); exact (by first | exact zl_node | exact zl_int | exact zl_nodes | exact zl_u8); exact (by first | exact by_nodes | exact by_ints | exact by_nodess | exact by_by); (first | exact sz_map (fun _ => rfl) | exact sz_lit rfl))
        | (apply aBox (hd := rfl) (hro := rfl); exact rfl; exact rfl)
        | (apply aAlloc (hd := rfl) (hro := rfl); exact (by first | exact zo_node | exact zo_int))
        | apply ay (hd := rfl)
        | (apply Y_move_d; exact rfl)
        | (apply Y_assign_d; exact rfl)
        | (apply Y_field_r; exact rfl; exact (by first | exact fo_0 | exact fo_1 | exact fo_2 | exact fo_3 | exact pf_0 | exact pf_1 | exact pf_2 | exact bf_0 | exact bf_1))
        | (apply Y_load_r1; exact rfl; exact (by first | exact tc_int | exact tc_nodes | exact tc_node | exact tc_ints | exact tc_kind | exact tc_i64 | exact tc_str | exact tc_bool | exact tc_ad | exact tc_by | exact tc_cx))
        | (apply Y_load_r; exact rfl; exact (by first | exact tc_int | exact tc_nodes | exact tc_node | exact tc_ints | exact tc_kind | exact tc_i64 | exact tc_str | exact tc_bool | exact tc_ad | exact tc_by | exact tc_cx); exact rfl)
        | (apply Y_len_m; exact rfl; exact (by first | exact et_nodes | exact et_ints | exact et_nodess | exact et_by))
        | (apply Y_len_d; exact rfl; exact (by first | exact et_nodes | exact et_ints | exact et_nodess | exact et_by))
        | (apply Y_lss; exact rfl; exact rfl)
        | (apply Y_leq; exact rfl; exact rfl)
        | (apply Y_gtr; exact rfl; exact rfl)
        | (apply Y_geq; exact rfl; exact rfl)
        | (apply Y_eql; exact rfl; exact rfl)
        | (apply Y_neq; exact rfl; exact rfl)
        | (apply Y_add; exact rfl; exact rfl)
        | (apply Y_sub; exact rfl; exact rfl)
        | (apply Y_mul; exact rfl; exact rfl)
        | (apply Y_not; exact rfl)
        | (apply Y_pick_t; exact rfl; exact rfl)
        | (apply Y_pick_f; exact rfl; exact rfl)
        | (apply Y_extract; exact rfl; exact rfl)
        | (apply Y_max; exact rfl; exact rfl)
        | (apply Y_move_nil; exact rfl)
        | (apply Y_assign_nil; exact rfl)
        | (apply Y_move_buf; exact rfl)
        | (apply Y_assign_buf; exact rfl)
        | (apply Y_len_buf; exact rfl; exact (by first | exact et_nodes | exact et_ints | exact et_nodess | exact et_by))
        | (apply Y_len_nil; exact rfl; exact (by first | exact et_nodes | exact et_ints | exact et_nodess | exact et_by))
        | (apply Y_move_ptr; exact rfl)
        | (apply Y_assign_ptr; exact rfl)
        | (apply Y_move_clo; exact rfl)
        | (apply Y_assign_clo; exact rfl)
        | (apply Y_field_p; exact rfl; exact (by first | exact fo_0 | exact fo_1 | exact fo_2 | exact fo_3 | exact pf_0 | exact pf_1 | exact pf_2 | exact bf_0 | exact bf_1))
        | (apply Y_load_p; exact rfl; exact (by first | exact tc_int | exact tc_nodes | exact tc_node | exact tc_ints | exact tc_kind | exact tc_i64 | exact tc_str | exact tc_bool | exact tc_ad | exact tc_by | exact tc_cx); exact rfl; exact rfl)
        | (apply Y_load_pa; exact rfl; exact (by first | exact tc_int | exact tc_nodes | exact tc_node | exact tc_ints | exact tc_kind | exact tc_i64 | exact tc_str | exact tc_bool | exact tc_ad | exact tc_by | exact tc_cx); exact rfl; exact rfl; exact rfl)
        | (apply Y_sl; (first | exact Co_dd rfl | exact Co_bb rfl rfl rfl | exact Co_nn rfl); exact (by first | exact es_nodes | exact es_ints | exact es_nodess | exact es_by); exact rfl; exact rfl; exact fun _ => rfl)
        | (apply Y_sl_l; (first | exact Co_dd rfl | exact Co_bb rfl rfl rfl | exact Co_nn rfl); exact (by first | exact es_nodes | exact es_ints | exact es_nodess | exact es_by); exact rfl; exact fun _ => rfl)
        | (apply Y_sl_h; (first | exact Co_dd rfl | exact Co_bb rfl rfl rfl | exact Co_nn rfl); exact (by first | exact es_nodes | exact es_ints | exact es_nodess | exact es_by); exact rfl; exact fun _ => rfl)
        | (apply Y_lit0; exact (by first | exact ety_nodes | exact ety_ints | exact ety_nodess | exact ety_by); exact (by first | exact es_nodes | exact es_ints | exact es_nodess | exact es_by); exact (by first | exact zs_node | exact zs_int | exact zs_nodes | exact zs_u8); exact rfl)
        | (apply Y_lit1; exact (by first | exact ety_nodes | exact ety_ints | exact ety_nodess | exact ety_by); exact (by first | exact es_nodes | exact es_ints | exact es_nodess | exact es_by); exact (by first | exact zs_node | exact zs_int | exact zs_nodes | exact zs_u8); exact rfl; exact rfl; (first | exact CoL_d rfl CoL_nil | exact CoL_b rfl rfl rfl CoL_nil | exact CoL_n rfl CoL_nil); exact rfl)
        | (apply Y_lit2; exact (by first | exact ety_nodes | exact ety_ints | exact ety_nodess | exact ety_by); exact (by first | exact es_nodes | exact es_ints | exact es_nodess | exact es_by); exact (by first | exact zs_node | exact zs_int | exact zs_nodes | exact zs_u8); exact rfl; exact rfl; (first | exact CoL_d rfl (CoL_d rfl CoL_nil) | exact CoL_b rfl rfl rfl (CoL_b rfl rfl rfl CoL_nil)); exact rfl)
        | (apply Y_lit3; exact (by first | exact ety_nodes | exact ety_ints | exact ety_nodess | exact ety_by); exact (by first | exact es_nodes | exact es_ints | exact es_nodess | exact es_by); exact (by first | exact zs_node | exact zs_int | exact zs_nodes | exact zs_u8); exact rfl; exact rfl; (exact CoL_d rfl (CoL_d rfl (CoL_d rfl CoL_nil))); exact rfl)
        | (apply Y_lit4; exact (by first | exact ety_nodes | exact ety_ints | exact ety_nodess | exact ety_by); exact (by first | exact es_nodes | exact es_ints | exact es_nodess | exact es_by); exact (by first | exact zs_node | exact zs_int | exact zs_nodes | exact zs_u8); exact rfl; exact rfl; (exact CoL_d rfl (CoL_d rfl (CoL_d rfl (CoL_d rfl CoL_nil)))); exact rfl)
        | (apply Y_mkf; exact rfl)
        | (apply w1; exact rfl; exact rfl)
        | (apply k1 (hd := rfl); exact rfl; exact rfl)
        | (apply k0 (hd := rfl); exact rfl; exact rfl)
        | (apply gD; exact rfl; exact rfl; (intro hb); rotate_left; (intro hb); rotate_right)
        | (apply gN; exact rfl; exact rfl; (intro hb); rotate_left; (intro hb); rotate_right)
        | (apply g1; exact rfl; exact rfl; (intro hb); rotate_left; (intro hb); rotate_right)
        | (refine w0' ?_)
        | (apply aStore; exact rfl; exact rfl; exact rfl; exact (by first | exact tc_int | exact tc_nodes | exact tc_node | exact tc_ints | exact tc_kind | exact tc_i64 | exact tc_str | exact tc_bool | exact tc_ad | exact tc_by | exact tc_cx); exact rfl; exact rfl; exact rfl; exact rfl)
        | (apply awp_condD; exact rfl; (intro hb); rotate_left; (intro hb); rotate_right)
        | (apply awp_condN; exact rfl; (intro hb); rotate_left; (intro hb); rotate_right)
        | (apply awp_condT; exact rfl)
        | (apply awp_condF; exact rfl)
        | (apply awp_cond; exact rfl; (intro hb); rotate_left; (intro hb); rotate_right)
        | refine awp_block ?_
        | refine awp_skip ?_
        | refine awp_ret ?_
        | refine awp_exit ?_
        | refine awp_label ?_
        | refine awp_goto ?_
        | refine awp_draw (by kernel_rfl) (by kernel_rfl) ?_
        | refine en_r ?_
        | refine en_e ?_
        | refine eb_n ?_
        | refine eb_r ?_
        | refine eb_e ?_
        | refine eb_o rfl ?_
        | refine en_g ?_
        | refine eb_g ?_
        | refine ej_n ?_
        | refine ej_r ?_
        | refine ej_e ?_
        | refine ej_g ?_
        | refine rpost_ret ?_
        | (apply res1; exact rfl)
        | (apply res1n; exact rfl)
        | (apply res1b; exact rfl; exact rfl; (first | exact rfl | (simp; done)))
        | (apply res2; exact rfl; exact rfl)
        | (apply res2n; exact rfl; exact rfl)
        | (apply res2b; exact rfl; exact rfl; (first | exact rfl | (simp; done)); exact rfl)
        | exact CoL_nil
        | refine CoL_d rfl ?_
        | refine CoL_b rfl rfl rfl ?_
        | refine CoL_n rfl ?_
        | refine CoL_v rfl ?_
      · simp only [List.length_map, List.length_range] at hb ⊢; omega
      · omega
      · obtain ⟨h2, h3, h4⟩ := hnx hv
        subst h3
        refine ⟨i + 1, h2, by omega, Fits_mk (Le_cons rfl (Le_cons rfl (Le_cons rfl (Le_cons rfl (Le_d rfl ?_ (Le_cons rfl (Le_cons rfl Le_nil))))))) Pre_nil rfl rfl⟩
        rw [hnxt]
      · simp only [List.length_map, List.length_range] at hb
        obtain rfl : i = n.kids.toNat := by omega
        rw [y43 (by omega)]; exact congrArg (fun q : Pen => str q.out) hK.symm
    · omega
    · rw [y44t (by assumption) (by omega)]
    · have h44f := y44f (by assumption) (by omega)
      have hst := fun i hi => kidsP_bd (f := fun t q => layN L w m t (ind) false q) hn he (fun t q h3 h4 h5 => layN_bd hD m t (ind) false q h4 (by omega) h5) (Bd_P0 (c := c) (k := k + 1) (by omega)) i hi
      refine awp_loopF (α := Nat) (fun i => i ≤ n.kids.toNat) (fun i => [(0, .d (nodes L)), (2, .d (i64 c)), (3, .d (i64 ((ind : Nat) : Int))), (4, .d (i64 w)), (15, .d (str (kidsP (fun t q => layN L w m t (ind) false q) L ((k : Int) + 1) i (P0 c)).out)), (16, .d (ints ((List.range n.kids.toNat).map (seqE L ((k : Int) + 1))))), (17, .d (i64 (i : Int)))]) (fun _ => []) (fun i => n.kids.toNat - i) 0 (Nat.zero_le _)
        (Fits_mk (Le_cons rfl (Le_cons rfl (Le_d rfl (i64_eq (by omega)) (Le_cons rfl (Le_cons rfl (Le_cons rfl (Le_cons rfl Le_nil))))))) Pre_nil rfl rfl) ?_
      intro i hi
      obtain ⟨q1, q2, _⟩ := hst i hi
      have hs := k4 i hi
      have hsb := seqE_bd hs hk
      have hcol := kidsP_col (L := L) (w := w) (m := m) (k := k) (ind := ind) (c := c) (i := i) hD.right false
      have hnxt := kidsP_next (L := L) (w := w) (m := m) (k := k) (ind := ind) (c := c) (i := i) hD.right false
      have hnx : ∀ {v : Int}, ((List.range n.kids.toNat).map (seqE L ((k : Int) + 1)))[((i : Int)).toNat]? = some v → i < n.kids.toNat ∧ v = seqE L ((k : Int) + 1) i ∧ 0 ≤ endF L v := by
        intro v hv
        obtain ⟨h2, h3⟩ := map_at (i := i) hv
        have := k4 (i + 1) (by omega)
        rw [seqE_succ hs, ← h3] at this
        exact ⟨h2, h3, this⟩
      generalize hK : (kidsP (fun t q => layN L w m t (ind) false q) L ((k : Int) + 1) i (P0 c)) = q at q1 q2 hcol hnxt ⊢
      have hcall : ∀ {v : Int}, ((List.range n.kids.toNat).map (seqE L ((k : Int) + 1)))[((i : Int)).toNat]? = some v → PCall Try.prog 31 [nodes L, i64 v, i64 (colF q.out c), i64 ((ind : Nat) : Int), i64 w] (str (layN L w m v.toNat (ind) false (P0 q.col)).out) := by
        intro v hv
        obtain ⟨h2, h3, h4⟩ := hnx hv
        rw [hcol]
        exact ih v q.col (ind) (by omega) h4 (by omega) (by omega)
      have hcat : ∀ {v : Int}, ((List.range n.kids.toNat).map (seqE L ((k : Int) + 1)))[((i : Int)).toNat]? = some v → (q.out.length : Int) + (layN L w m v.toNat (ind) false (P0 q.col)).out.length ≤ 9223372036854775807 := by
        intro v hv
        obtain ⟨h2, h3, h4⟩ := hnx hv
        obtain ⟨r1, _, _⟩ := hst (i + 1) (by omega)
        rw [hnxt, List.length_append, ← h3] at r1
        have h5 := k4 (i + 1) (by omega)
        have := seqE_bd h5 hk
        omega
      repeat' first
        | refine en_n ?_
        | refine awp_seq ?_
        | refine awp_region ?_
        | refine alex_nil ?_
        | refine w0 ?_
        | (apply Y_cat_l; exact rfl; exact rfl; exact hcat hv)
        | (apply Y_len_l; exact rfl; exact ustr)
        | (apply Y_eqs; exact rfl; exact rfl)
        | (apply Y_neqs; exact rfl; exact rfl)
        | (apply Y_cat_l; exact rfl; exact rfl; omega)
        | (apply Y_idx_l; exact rfl; exact rfl; exact ustr; (first
        | assumption
        | omega))
        | (apply Y_sub_l; exact rfl; exact rfl; exact rfl; exact ustr; (first
        | assumption
        | omega))
        | (apply Y_call (hb := hb_rlay) (hc := hcall hv))
        | (apply Y_call (hb := hb_column) (hc := column_ok q.out c (by omega) (by omega)))
        | (apply aJ (hd := rfl); (first | exact Co_dd rfl | exact Co_bb rfl rfl rfl | exact Co_nn rfl); exact rfl; exact (by first | exact es_nodes | exact es_ints | exact es_nodess | exact es_by); assumption; omega; exact fun _ => rfl)
        | (apply aI (hd := rfl); (first | exact Co_dd rfl | exact Co_bb rfl rfl rfl | exact Co_nn rfl); exact rfl; exact (by first | exact es_nodes | exact es_ints | exact es_nodess | exact es_by); exact fun _ => rfl; rotate_left; intro v hv; rotate_right)
        | (apply aApp (hd := rfl) (hro := rfl); exact rfl; exact rfl; (first | exact Co_dd rfl | exact Co_bb rfl rfl rfl | exact Co_nn rfl); (first | exact rfl | (simp; done)); exact rfl; exact (by first | exact ety_nodes | exact ety_ints | exact ety_nodess | exact ety_by); exact (by first | exact es_nodes | exact es_ints | exact es_nodess | exact es_by); exact (by first | exact zl_node | exact zl_int | exact zl_nodes | exact zl_u8); exact (by first | exact by_nodes | exact by_ints | exact by_nodess | exact by_by); (first | exact sz_map (fun _ => rfl) | exact sz_lit rfl))
        | (apply aBox (hd := rfl) (hro := rfl); exact rfl; exact rfl)
        | (apply aAlloc (hd := rfl) (hro := rfl); exact (by first | exact zo_node | exact zo_int))
        | apply ay (hd := rfl)
        | (apply Y_move_d; exact rfl)
        | (apply Y_assign_d; exact rfl)
        | (apply Y_field_r; exact rfl; exact (by first | exact fo_0 | exact fo_1 | exact fo_2 | exact fo_3 | exact pf_0 | exact pf_1 | exact pf_2 | exact bf_0 | exact bf_1))
        | (apply Y_load_r1; exact rfl; exact (by first | exact tc_int | exact tc_nodes | exact tc_node | exact tc_ints | exact tc_kind | exact tc_i64 | exact tc_str | exact tc_bool | exact tc_ad | exact tc_by | exact tc_cx))
        | (apply Y_load_r; exact rfl; exact (by first | exact tc_int | exact tc_nodes | exact tc_node | exact tc_ints | exact tc_kind | exact tc_i64 | exact tc_str | exact tc_bool | exact tc_ad | exact tc_by | exact tc_cx); exact rfl)
        | (apply Y_len_m; exact rfl; exact (by first | exact et_nodes | exact et_ints | exact et_nodess | exact et_by))
        | (apply Y_len_d; exact rfl; exact (by first | exact et_nodes | exact et_ints | exact et_nodess | exact et_by))
        | (apply Y_lss; exact rfl; exact rfl)
        | (apply Y_leq; exact rfl; exact rfl)
        | (apply Y_gtr; exact rfl; exact rfl)
        | (apply Y_geq; exact rfl; exact rfl)
        | (apply Y_eql; exact rfl; exact rfl)
        | (apply Y_neq; exact rfl; exact rfl)
        | (apply Y_add; exact rfl; exact rfl)
        | (apply Y_sub; exact rfl; exact rfl)
        | (apply Y_mul; exact rfl; exact rfl)
        | (apply Y_not; exact rfl)
        | (apply Y_pick_t; exact rfl; exact rfl)
        | (apply Y_pick_f; exact rfl; exact rfl)
        | (apply Y_extract; exact rfl; exact rfl)
        | (apply Y_max; exact rfl; exact rfl)
        | (apply Y_move_nil; exact rfl)
        | (apply Y_assign_nil; exact rfl)
        | (apply Y_move_buf; exact rfl)
        | (apply Y_assign_buf; exact rfl)
        | (apply Y_len_buf; exact rfl; exact (by first | exact et_nodes | exact et_ints | exact et_nodess | exact et_by))
        | (apply Y_len_nil; exact rfl; exact (by first | exact et_nodes | exact et_ints | exact et_nodess | exact et_by))
        | (apply Y_move_ptr; exact rfl)
        | (apply Y_assign_ptr; exact rfl)
        | (apply Y_move_clo; exact rfl)
        | (apply Y_assign_clo; exact rfl)
        | (apply Y_field_p; exact rfl; exact (by first | exact fo_0 | exact fo_1 | exact fo_2 | exact fo_3 | exact pf_0 | exact pf_1 | exact pf_2 | exact bf_0 | exact bf_1))
        | (apply Y_load_p; exact rfl; exact (by first | exact tc_int | exact tc_nodes | exact tc_node | exact tc_ints | exact tc_kind | exact tc_i64 | exact tc_str | exact tc_bool | exact tc_ad | exact tc_by | exact tc_cx); exact rfl; exact rfl)
        | (apply Y_load_pa; exact rfl; exact (by first | exact tc_int | exact tc_nodes | exact tc_node | exact tc_ints | exact tc_kind | exact tc_i64 | exact tc_str | exact tc_bool | exact tc_ad | exact tc_by | exact tc_cx); exact rfl; exact rfl; exact rfl)
        | (apply Y_sl; (first | exact Co_dd rfl | exact Co_bb rfl rfl rfl | exact Co_nn rfl); exact (by first | exact es_nodes | exact es_ints | exact es_nodess | exact es_by); exact rfl; exact rfl; exact fun _ => rfl)
        | (apply Y_sl_l; (first | exact Co_dd rfl | exact Co_bb rfl rfl rfl | exact Co_nn rfl); exact (by first | exact es_nodes | exact es_ints | exact es_nodess | exact es_by); exact rfl; exact fun _ => rfl)
        | (apply Y_sl_h; (first | exact Co_dd rfl | exact Co_bb rfl rfl rfl | exact Co_nn rfl); exact (by first | exact es_nodes | exact es_ints | exact es_nodess | exact es_by); exact rfl; exact fun _ => rfl)
        | (apply Y_lit0; exact (by first | exact ety_nodes | exact ety_ints | exact ety_nodess | exact ety_by); exact (by first | exact es_nodes | exact es_ints | exact es_nodess | exact es_by); exact (by first | exact zs_node | exact zs_int | exact zs_nodes | exact zs_u8); exact rfl)
        | (apply Y_lit1; exact (by first | exact ety_nodes | exact ety_ints | exact ety_nodess | exact ety_by); exact (by first | exact es_nodes | exact es_ints | exact es_nodess | exact es_by); exact (by first | exact zs_node | exact zs_int | exact zs_nodes | exact zs_u8); exact rfl; exact rfl; (first | exact CoL_d rfl CoL_nil | exact CoL_b rfl rfl rfl CoL_nil | exact CoL_n rfl CoL_nil); exact rfl)
        | (apply Y_lit2; exact (by first | exact ety_nodes | exact ety_ints | exact ety_nodess | exact ety_by); exact (by first | exact es_nodes | exact es_ints | exact es_nodess | exact es_by); exact (by first | exact zs_node | exact zs_int | exact zs_nodes | exact zs_u8); exact rfl; exact rfl; (first | exact CoL_d rfl (CoL_d rfl CoL_nil) | exact CoL_b rfl rfl rfl (CoL_b rfl rfl rfl CoL_nil)); exact rfl)
        | (apply Y_lit3; exact (by first | exact ety_nodes | exact ety_ints | exact ety_nodess | exact ety_by); exact (by first | exact es_nodes | exact es_ints | exact es_nodess | exact es_by); exact (by first | exact zs_node | exact zs_int | exact zs_nodes | exact zs_u8); exact rfl; exact rfl; (exact CoL_d rfl (CoL_d rfl (CoL_d rfl CoL_nil))); exact rfl)
        | (apply Y_lit4; exact (by first | exact ety_nodes | exact ety_ints | exact ety_nodess | exact ety_by); exact (by first | exact es_nodes | exact es_ints | exact es_nodess | exact es_by); exact (by first | exact zs_node | exact zs_int | exact zs_nodes | exact zs_u8); exact rfl; exact rfl; (exact CoL_d rfl (CoL_d rfl (CoL_d rfl (CoL_d rfl CoL_nil)))); exact rfl)
        | (apply Y_mkf; exact rfl)
        | (apply w1; exact rfl; exact rfl)
        | (apply k1 (hd := rfl); exact rfl; exact rfl)
        | (apply k0 (hd := rfl); exact rfl; exact rfl)
        | (apply gD; exact rfl; exact rfl; (intro hb); rotate_left; (intro hb); rotate_right)
        | (apply gN; exact rfl; exact rfl; (intro hb); rotate_left; (intro hb); rotate_right)
        | (apply g1; exact rfl; exact rfl; (intro hb); rotate_left; (intro hb); rotate_right)
        | (refine w0' ?_)
        | (apply aStore; exact rfl; exact rfl; exact rfl; exact (by first | exact tc_int | exact tc_nodes | exact tc_node | exact tc_ints | exact tc_kind | exact tc_i64 | exact tc_str | exact tc_bool | exact tc_ad | exact tc_by | exact tc_cx); exact rfl; exact rfl; exact rfl; exact rfl)
        | (apply awp_condD; exact rfl; (intro hb); rotate_left; (intro hb); rotate_right)
        | (apply awp_condN; exact rfl; (intro hb); rotate_left; (intro hb); rotate_right)
        | (apply awp_condT; exact rfl)
        | (apply awp_condF; exact rfl)
        | (apply awp_cond; exact rfl; (intro hb); rotate_left; (intro hb); rotate_right)
        | refine awp_block ?_
        | refine awp_skip ?_
        | refine awp_ret ?_
        | refine awp_exit ?_
        | refine awp_label ?_
        | refine awp_goto ?_
        | refine awp_draw (by kernel_rfl) (by kernel_rfl) ?_
        | refine en_r ?_
        | refine en_e ?_
        | refine eb_n ?_
        | refine eb_r ?_
        | refine eb_e ?_
        | refine eb_o rfl ?_
        | refine en_g ?_
        | refine eb_g ?_
        | refine ej_n ?_
        | refine ej_r ?_
        | refine ej_e ?_
        | refine ej_g ?_
        | refine rpost_ret ?_
        | (apply res1; exact rfl)
        | (apply res1n; exact rfl)
        | (apply res1b; exact rfl; exact rfl; (first | exact rfl | (simp; done)))
        | (apply res2; exact rfl; exact rfl)
        | (apply res2n; exact rfl; exact rfl)
        | (apply res2b; exact rfl; exact rfl; (first | exact rfl | (simp; done)); exact rfl)
        | exact CoL_nil
        | refine CoL_d rfl ?_
        | refine CoL_b rfl rfl rfl ?_
        | refine CoL_n rfl ?_
        | refine CoL_v rfl ?_
      · simp only [List.length_map, List.length_range] at hb ⊢; omega
      · omega
      · obtain ⟨h2, h3, h4⟩ := hnx hv
        subst h3
        refine ⟨i + 1, h2, by omega, Fits_mk (Le_cons rfl (Le_cons rfl (Le_cons rfl (Le_cons rfl (Le_d rfl ?_ (Le_cons rfl (Le_cons rfl Le_nil))))))) Pre_nil rfl rfl⟩
        rw [hnxt]
      · simp only [List.length_map, List.length_range] at hb
        obtain rfl : i = n.kids.toNat := by omega
        rw [h44f]; exact congrArg (fun q : Pen => str q.out) hK.symm
    · have h45 := y45 (by assumption) (by assumption) (by assumption) hb
      have hst := fun i hi => kidsP_bd (f := fun t q => layN L w m t (ind) false q) hn he (fun t q h3 h4 h5 => layN_bd hD m t (ind) false q h4 (by omega) h5) (Bd_P0 (c := c) (k := k + 1) (by omega)) i hi
      refine awp_loopF (α := Nat) (fun i => i ≤ n.kids.toNat) (fun i => [(0, .d (nodes L)), (2, .d (i64 c)), (3, .d (i64 ((ind : Nat) : Int))), (4, .d (i64 w)), (15, .d (str (kidsP (fun t q => layN L w m t (ind) false q) L ((k : Int) + 1) i (P0 c)).out)), (16, .d (ints ((List.range n.kids.toNat).map (seqE L ((k : Int) + 1))))), (17, .d (i64 (i : Int)))]) (fun _ => []) (fun i => n.kids.toNat - i) 0 (Nat.zero_le _)
        (Fits_mk (Le_cons rfl (Le_cons rfl (Le_d rfl (i64_eq (by omega)) (Le_cons rfl (Le_cons rfl (Le_cons rfl (Le_cons rfl Le_nil))))))) Pre_nil rfl rfl) ?_
      intro i hi
      obtain ⟨q1, q2, _⟩ := hst i hi
      have hs := k4 i hi
      have hsb := seqE_bd hs hk
      have hcol := kidsP_col (L := L) (w := w) (m := m) (k := k) (ind := ind) (c := c) (i := i) hD.right false
      have hnxt := kidsP_next (L := L) (w := w) (m := m) (k := k) (ind := ind) (c := c) (i := i) hD.right false
      have hnx : ∀ {v : Int}, ((List.range n.kids.toNat).map (seqE L ((k : Int) + 1)))[((i : Int)).toNat]? = some v → i < n.kids.toNat ∧ v = seqE L ((k : Int) + 1) i ∧ 0 ≤ endF L v := by
        intro v hv
        obtain ⟨h2, h3⟩ := map_at (i := i) hv
        have := k4 (i + 1) (by omega)
        rw [seqE_succ hs, ← h3] at this
        exact ⟨h2, h3, this⟩
      generalize hK : (kidsP (fun t q => layN L w m t (ind) false q) L ((k : Int) + 1) i (P0 c)) = q at q1 q2 hcol hnxt ⊢
      have hcall : ∀ {v : Int}, ((List.range n.kids.toNat).map (seqE L ((k : Int) + 1)))[((i : Int)).toNat]? = some v → PCall Try.prog 31 [nodes L, i64 v, i64 (colF q.out c), i64 ((ind : Nat) : Int), i64 w] (str (layN L w m v.toNat (ind) false (P0 q.col)).out) := by
        intro v hv
        obtain ⟨h2, h3, h4⟩ := hnx hv
        rw [hcol]
        exact ih v q.col (ind) (by omega) h4 (by omega) (by omega)
      have hcat : ∀ {v : Int}, ((List.range n.kids.toNat).map (seqE L ((k : Int) + 1)))[((i : Int)).toNat]? = some v → (q.out.length : Int) + (layN L w m v.toNat (ind) false (P0 q.col)).out.length ≤ 9223372036854775807 := by
        intro v hv
        obtain ⟨h2, h3, h4⟩ := hnx hv
        obtain ⟨r1, _, _⟩ := hst (i + 1) (by omega)
        rw [hnxt, List.length_append, ← h3] at r1
        have h5 := k4 (i + 1) (by omega)
        have := seqE_bd h5 hk
        omega
      repeat' first
        | refine en_n ?_
        | refine awp_seq ?_
        | refine awp_region ?_
        | refine alex_nil ?_
        | refine w0 ?_
        | (apply Y_cat_l; exact rfl; exact rfl; exact hcat hv)
        | (apply Y_len_l; exact rfl; exact ustr)
        | (apply Y_eqs; exact rfl; exact rfl)
        | (apply Y_neqs; exact rfl; exact rfl)
        | (apply Y_cat_l; exact rfl; exact rfl; omega)
        | (apply Y_idx_l; exact rfl; exact rfl; exact ustr; (first
        | assumption
        | omega))
        | (apply Y_sub_l; exact rfl; exact rfl; exact rfl; exact ustr; (first
        | assumption
        | omega))
        | (apply Y_call (hb := hb_rlay) (hc := hcall hv))
        | (apply Y_call (hb := hb_column) (hc := column_ok q.out c (by omega) (by omega)))
        | (apply aJ (hd := rfl); (first | exact Co_dd rfl | exact Co_bb rfl rfl rfl | exact Co_nn rfl); exact rfl; exact (by first | exact es_nodes | exact es_ints | exact es_nodess | exact es_by); assumption; omega; exact fun _ => rfl)
        | (apply aI (hd := rfl); (first | exact Co_dd rfl | exact Co_bb rfl rfl rfl | exact Co_nn rfl); exact rfl; exact (by first | exact es_nodes | exact es_ints | exact es_nodess | exact es_by); exact fun _ => rfl; rotate_left; intro v hv; rotate_right)
        | (apply aApp (hd := rfl) (hro := rfl); exact rfl; exact rfl; (first | exact Co_dd rfl | exact Co_bb rfl rfl rfl | exact Co_nn rfl); (first | exact rfl | (simp; done)); exact rfl; exact (by first | exact ety_nodes | exact ety_ints | exact ety_nodess | exact ety_by); exact (by first | exact es_nodes | exact es_ints | exact es_nodess | exact es_by); exact (by first | exact zl_node | exact zl_int | exact zl_nodes | exact zl_u8); exact (by first | exact by_nodes | exact by_ints | exact by_nodess | exact by_by); (first | exact sz_map (fun _ => rfl) | exact sz_lit rfl))
        | (apply aBox (hd := rfl) (hro := rfl); exact rfl; exact rfl)
        | (apply aAlloc (hd := rfl) (hro := rfl); exact (by first | exact zo_node | exact zo_int))
        | apply ay (hd := rfl)
        | (apply Y_move_d; exact rfl)
        | (apply Y_assign_d; exact rfl)
        | (apply Y_field_r; exact rfl; exact (by first | exact fo_0 | exact fo_1 | exact fo_2 | exact fo_3 | exact pf_0 | exact pf_1 | exact pf_2 | exact bf_0 | exact bf_1))
        | (apply Y_load_r1; exact rfl; exact (by first | exact tc_int | exact tc_nodes | exact tc_node | exact tc_ints | exact tc_kind | exact tc_i64 | exact tc_str | exact tc_bool | exact tc_ad | exact tc_by | exact tc_cx))
        | (apply Y_load_r; exact rfl; exact (by first | exact tc_int | exact tc_nodes | exact tc_node | exact tc_ints | exact tc_kind | exact tc_i64 | exact tc_str | exact tc_bool | exact tc_ad | exact tc_by | exact tc_cx); exact rfl)
        | (apply Y_len_m; exact rfl; exact (by first | exact et_nodes | exact et_ints | exact et_nodess | exact et_by))
        | (apply Y_len_d; exact rfl; exact (by first | exact et_nodes | exact et_ints | exact et_nodess | exact et_by))
        | (apply Y_lss; exact rfl; exact rfl)
        | (apply Y_leq; exact rfl; exact rfl)
        | (apply Y_gtr; exact rfl; exact rfl)
        | (apply Y_geq; exact rfl; exact rfl)
        | (apply Y_eql; exact rfl; exact rfl)
        | (apply Y_neq; exact rfl; exact rfl)
        | (apply Y_add; exact rfl; exact rfl)
        | (apply Y_sub; exact rfl; exact rfl)
        | (apply Y_mul; exact rfl; exact rfl)
        | (apply Y_not; exact rfl)
        | (apply Y_pick_t; exact rfl; exact rfl)
        | (apply Y_pick_f; exact rfl; exact rfl)
        | (apply Y_extract; exact rfl; exact rfl)
        | (apply Y_max; exact rfl; exact rfl)
        | (apply Y_move_nil; exact rfl)
        | (apply Y_assign_nil; exact rfl)
        | (apply Y_move_buf; exact rfl)
        | (apply Y_assign_buf; exact rfl)
        | (apply Y_len_buf; exact rfl; exact (by first | exact et_nodes | exact et_ints | exact et_nodess | exact et_by))
        | (apply Y_len_nil; exact rfl; exact (by first | exact et_nodes | exact et_ints | exact et_nodess | exact et_by))
        | (apply Y_move_ptr; exact rfl)
        | (apply Y_assign_ptr; exact rfl)
        | (apply Y_move_clo; exact rfl)
        | (apply Y_assign_clo; exact rfl)
        | (apply Y_field_p; exact rfl; exact (by first | exact fo_0 | exact fo_1 | exact fo_2 | exact fo_3 | exact pf_0 | exact pf_1 | exact pf_2 | exact bf_0 | exact bf_1))
        | (apply Y_load_p; exact rfl; exact (by first | exact tc_int | exact tc_nodes | exact tc_node | exact tc_ints | exact tc_kind | exact tc_i64 | exact tc_str | exact tc_bool | exact tc_ad | exact tc_by | exact tc_cx); exact rfl; exact rfl)
        | (apply Y_load_pa; exact rfl; exact (by first | exact tc_int | exact tc_nodes | exact tc_node | exact tc_ints | exact tc_kind | exact tc_i64 | exact tc_str | exact tc_bool | exact tc_ad | exact tc_by | exact tc_cx); exact rfl; exact rfl; exact rfl)
        | (apply Y_sl; (first | exact Co_dd rfl | exact Co_bb rfl rfl rfl | exact Co_nn rfl); exact (by first | exact es_nodes | exact es_ints | exact es_nodess | exact es_by); exact rfl; exact rfl; exact fun _ => rfl)
        | (apply Y_sl_l; (first | exact Co_dd rfl | exact Co_bb rfl rfl rfl | exact Co_nn rfl); exact (by first | exact es_nodes | exact es_ints | exact es_nodess | exact es_by); exact rfl; exact fun _ => rfl)
        | (apply Y_sl_h; (first | exact Co_dd rfl | exact Co_bb rfl rfl rfl | exact Co_nn rfl); exact (by first | exact es_nodes | exact es_ints | exact es_nodess | exact es_by); exact rfl; exact fun _ => rfl)
        | (apply Y_lit0; exact (by first | exact ety_nodes | exact ety_ints | exact ety_nodess | exact ety_by); exact (by first | exact es_nodes | exact es_ints | exact es_nodess | exact es_by); exact (by first | exact zs_node | exact zs_int | exact zs_nodes | exact zs_u8); exact rfl)
        | (apply Y_lit1; exact (by first | exact ety_nodes | exact ety_ints | exact ety_nodess | exact ety_by); exact (by first | exact es_nodes | exact es_ints | exact es_nodess | exact es_by); exact (by first | exact zs_node | exact zs_int | exact zs_nodes | exact zs_u8); exact rfl; exact rfl; (first | exact CoL_d rfl CoL_nil | exact CoL_b rfl rfl rfl CoL_nil | exact CoL_n rfl CoL_nil); exact rfl)
        | (apply Y_lit2; exact (by first | exact ety_nodes | exact ety_ints | exact ety_nodess | exact ety_by); exact (by first | exact es_nodes | exact es_ints | exact es_nodess | exact es_by); exact (by first | exact zs_node | exact zs_int | exact zs_nodes | exact zs_u8); exact rfl; exact rfl; (first | exact CoL_d rfl (CoL_d rfl CoL_nil) | exact CoL_b rfl rfl rfl (CoL_b rfl rfl rfl CoL_nil)); exact rfl)
        | (apply Y_lit3; exact (by first | exact ety_nodes | exact ety_ints | exact ety_nodess | exact ety_by); exact (by first | exact es_nodes | exact es_ints | exact es_nodess | exact es_by); exact (by first | exact zs_node | exact zs_int | exact zs_nodes | exact zs_u8); exact rfl; exact rfl; (exact CoL_d rfl (CoL_d rfl (CoL_d rfl CoL_nil))); exact rfl)
        | (apply Y_lit4; exact (by first | exact ety_nodes | exact ety_ints | exact ety_nodess | exact ety_by); exact (by first | exact es_nodes | exact es_ints | exact es_nodess | exact es_by); exact (by first | exact zs_node | exact zs_int | exact zs_nodes | exact zs_u8); exact rfl; exact rfl; (exact CoL_d rfl (CoL_d rfl (CoL_d rfl (CoL_d rfl CoL_nil)))); exact rfl)
        | (apply Y_mkf; exact rfl)
        | (apply w1; exact rfl; exact rfl)
        | (apply k1 (hd := rfl); exact rfl; exact rfl)
        | (apply k0 (hd := rfl); exact rfl; exact rfl)
        | (apply gD; exact rfl; exact rfl; (intro hb); rotate_left; (intro hb); rotate_right)
        | (apply gN; exact rfl; exact rfl; (intro hb); rotate_left; (intro hb); rotate_right)
        | (apply g1; exact rfl; exact rfl; (intro hb); rotate_left; (intro hb); rotate_right)
        | (refine w0' ?_)
        | (apply aStore; exact rfl; exact rfl; exact rfl; exact (by first | exact tc_int | exact tc_nodes | exact tc_node | exact tc_ints | exact tc_kind | exact tc_i64 | exact tc_str | exact tc_bool | exact tc_ad | exact tc_by | exact tc_cx); exact rfl; exact rfl; exact rfl; exact rfl)
        | (apply awp_condD; exact rfl; (intro hb); rotate_left; (intro hb); rotate_right)
        | (apply awp_condN; exact rfl; (intro hb); rotate_left; (intro hb); rotate_right)
        | (apply awp_condT; exact rfl)
        | (apply awp_condF; exact rfl)
        | (apply awp_cond; exact rfl; (intro hb); rotate_left; (intro hb); rotate_right)
        | refine awp_block ?_
        | refine awp_skip ?_
        | refine awp_ret ?_
        | refine awp_exit ?_
        | refine awp_label ?_
        | refine awp_goto ?_
        | refine awp_draw (by kernel_rfl) (by kernel_rfl) ?_
        | refine en_r ?_
        | refine en_e ?_
        | refine eb_n ?_
        | refine eb_r ?_
        | refine eb_e ?_
        | refine eb_o rfl ?_
        | refine en_g ?_
        | refine eb_g ?_
        | refine ej_n ?_
        | refine ej_r ?_
        | refine ej_e ?_
        | refine ej_g ?_
        | refine rpost_ret ?_
        | (apply res1; exact rfl)
        | (apply res1n; exact rfl)
        | (apply res1b; exact rfl; exact rfl; (first | exact rfl | (simp; done)))
        | (apply res2; exact rfl; exact rfl)
        | (apply res2n; exact rfl; exact rfl)
        | (apply res2b; exact rfl; exact rfl; (first | exact rfl | (simp; done)); exact rfl)
        | exact CoL_nil
        | refine CoL_d rfl ?_
        | refine CoL_b rfl rfl rfl ?_
        | refine CoL_n rfl ?_
        | refine CoL_v rfl ?_
      · simp only [List.length_map, List.length_range] at hb ⊢; omega
      · omega
      · obtain ⟨h2, h3, h4⟩ := hnx hv
        subst h3
        refine ⟨i + 1, h2, by omega, Fits_mk (Le_cons rfl (Le_cons rfl (Le_cons rfl (Le_cons rfl (Le_d rfl ?_ (Le_cons rfl (Le_cons rfl Le_nil))))))) Pre_nil rfl rfl⟩
        rw [hnxt]
      · simp only [List.length_map, List.length_range] at hb
        obtain rfl : i = n.kids.toNat := by omega
        rw [h45]; exact congrArg (fun q : Pen => str q.out) hK.symm
end Go.Proofs.Ytcjakkbanlgafaa
/- The layout statements: the walk of lay and of its closure. -/
namespace Go.Proofs.Ytcjakkbanlgafaa
open Go.Sx Go.RowKit Go.Lib
attribute [local irreducible] Ylds astep alex alexE alexD awp PCall FCall RCall MCall QCall athen ablock ajump rpost fpost mpost

theorem tc_pp : tyCells Try.prog 46 = some (false, 1) := by kernel_rfl

/-- what the closure sees -/
def objsK (p : Pen) (w : Int) (L : List Nd) (a : Int) (n : Nd) : List Ob :=
  [penOb p w, rowOb p, .box [.ptr 0 0], .box [.d (nodes L)], .box [.d (i64 a)], .box [.d (i64 n.kind), .d (str n.text), .d (i64 n.num), .d (i64 n.kids)]]
theorem objsK_below (fx : Nat → Option Nat) (p : Pen) (w : Int) (L : List Nd) (a : Int) (n : Nd) : (anch fx 0 (objsK p w L a n)).all (Ob.below (anch fx 0 (objsK p w L a n)).length) = true := by
  obtain ⟨u, o, c, r⟩ := p; cases u <;> rfl
theorem pen_ren (p : Pen) (w : Int) (l : List Nat) : (penOb p w).ren (0 :: 1 :: l) = penOb p w := by
  obtain ⟨u, o, c, r⟩ := p; cases u <;> rfl

/-- the contract of lay, at fuel m -/
def LayC (L : List Nd) (w m : Nat) : Prop := ∀ (at_ ind : Nat) (fl : Bool) (p : Pen), L.length ≤ m + at_ → 0 ≤ endF L at_ → ind ≤ 40 * at_ → Bd p at_ →
  MCall Try.prog 25 [.ptr 0 0, .d (nodes L), .d (i64 at_), .d (i64 ind), .d (bl fl)] [penOb p w, rowOb p] (.d (i64 (endF L at_))) [penOb (layN L w m at_ ind fl p) w, rowOb (layN L w m at_ ind fl p)]

theorem kids_ok {L : List Nd} {w m : Nat} (hD : Doc L) (ih : LayC L w m) (at_ : Nat) (n : Nd) (hn : L[at_]? = some n) (he : 0 ≤ endF L at_) (hm : L.length ≤ m + at_ + 1) (ind : Nat) (fl : Bool) (p : Pen) (hi : ind ≤ 40 * (at_ + 1)) (hp : Bd p (at_ + 1)) :
    MCall Try.prog 34 [.d (i64 ind), .d (bl fl), .ptr 4 0, .ptr 5 0, .ptr 2 0, .ptr 3 0] (objsK p w L at_ n) (.d (i64 (endF L at_))) (objsK (kidsP (fun t q => layN L w m t ind fl q) L ((at_ : Int) + 1) n.kids.toNat p) w L at_ n) := by
  obtain ⟨k1, k2, k3, k4⟩ := node_end hn he
  have hk := (List.getElem?_eq_some_iff.1 hn).1
  have hlen := hD.len
  refine mcall_of Try.func34 rfl Try.ntmps34 Try.results34 rfl rfl rfl ?_
  intro wb St0 X fx
  repeat' first
    | refine en_n ?_
    | refine awp_seq ?_
    | refine awp_region ?_
    | refine alex_nil ?_
    | refine w0 ?_
    | (apply aJ (hd := rfl); (first | exact Co_dd rfl | exact Co_bb rfl rfl rfl | exact Co_nn rfl); exact rfl; exact (by first | exact es_nodes | exact es_ints | exact es_nodess | exact es_by); assumption; omega; exact fun _ => rfl)
    | (apply aI (hd := rfl); (first | exact Co_dd rfl | exact Co_bb rfl rfl rfl | exact Co_nn rfl); exact rfl; exact (by first | exact es_nodes | exact es_ints | exact es_nodess | exact es_by); exact fun _ => rfl; rotate_left; intro v hv; rotate_right)
    | (apply aApp (hd := rfl) (hro := rfl); exact rfl; exact rfl; (first | exact Co_dd rfl | exact Co_bb rfl rfl rfl | exact Co_nn rfl); (first | exact rfl | (simp; done)); exact rfl; exact (by first | exact ety_nodes | exact ety_ints | exact ety_nodess | exact ety_by); exact (by first | exact es_nodes | exact es_ints | exact es_nodess | exact es_by); exact (by first | exact zl_node | exact zl_int | exact zl_nodes | exact zl_u8); exact (by first | exact by_nodes | exact by_ints | exact by_nodess | exact by_by); (first | exact sz_map (fun _ => rfl) | exact sz_lit rfl))
    | (apply aBox (hd := rfl) (hro := rfl); exact rfl; exact rfl)
    | (apply aAlloc (hd := rfl) (hro := rfl); exact (by first | exact zo_node | exact zo_int))
    | apply ay (hd := rfl)
    | (apply Y_move_d; exact rfl)
    | (apply Y_assign_d; exact rfl)
    | (apply Y_field_r; exact rfl; exact (by first | exact fo_0 | exact fo_1 | exact fo_2 | exact fo_3 | exact pf_0 | exact pf_1 | exact pf_2 | exact bf_0 | exact bf_1))
    | (apply Y_load_r1; exact rfl; exact (by first | exact tc_pp | exact tc_int | exact tc_nodes | exact tc_node | exact tc_ints | exact tc_kind | exact tc_i64 | exact tc_str | exact tc_bool | exact tc_ad | exact tc_by | exact tc_cx))
    | (apply Y_load_r; exact rfl; exact (by first | exact tc_pp | exact tc_int | exact tc_nodes | exact tc_node | exact tc_ints | exact tc_kind | exact tc_i64 | exact tc_str | exact tc_bool | exact tc_ad | exact tc_by | exact tc_cx); exact rfl)
    | (apply Y_len_m; exact rfl; exact (by first | exact et_nodes | exact et_ints | exact et_nodess | exact et_by))
    | (apply Y_len_d; exact rfl; exact (by first | exact et_nodes | exact et_ints | exact et_nodess | exact et_by))
    | (apply Y_lss; exact rfl; exact rfl)
    | (apply Y_leq; exact rfl; exact rfl)
    | (apply Y_gtr; exact rfl; exact rfl)
    | (apply Y_geq; exact rfl; exact rfl)
    | (apply Y_eql; exact rfl; exact rfl)
    | (apply Y_neq; exact rfl; exact rfl)
    | (apply Y_add; exact rfl; exact rfl)
    | (apply Y_sub; exact rfl; exact rfl)
    | (apply Y_mul; exact rfl; exact rfl)
    | (apply Y_not; exact rfl)
    | (apply Y_pick_t; exact rfl; exact rfl)
    | (apply Y_pick_f; exact rfl; exact rfl)
    | (apply Y_extract; exact rfl; exact rfl)
    | (apply Y_max; exact rfl; exact rfl)
    | (apply Y_move_nil; exact rfl)
    | (apply Y_assign_nil; exact rfl)
    | (apply Y_move_buf; exact rfl)
    | (apply Y_assign_buf; exact rfl)
    | (apply Y_len_buf; exact rfl; exact (by first | exact et_nodes | exact et_ints | exact et_nodess | exact et_by))
    | (apply Y_len_nil; exact rfl; exact (by first | exact et_nodes | exact et_ints | exact et_nodess | exact et_by))
    | (apply Y_move_ptr; exact rfl)
    | (apply Y_assign_ptr; exact rfl)
    | (apply Y_move_clo; exact rfl)
    | (apply Y_assign_clo; exact rfl)
    | (apply Y_field_p; exact rfl; exact (by first | exact fo_0 | exact fo_1 | exact fo_2 | exact fo_3 | exact pf_0 | exact pf_1 | exact pf_2 | exact bf_0 | exact bf_1))
    | (apply Y_load_p; exact rfl; exact (by first | exact tc_pp | exact tc_int | exact tc_nodes | exact tc_node | exact tc_ints | exact tc_kind | exact tc_i64 | exact tc_str | exact tc_bool | exact tc_ad | exact tc_by | exact tc_cx); exact rfl; exact rfl)
    | (apply Y_load_pa; exact rfl; exact (by first | exact tc_pp | exact tc_int | exact tc_nodes | exact tc_node | exact tc_ints | exact tc_kind | exact tc_i64 | exact tc_str | exact tc_bool | exact tc_ad | exact tc_by | exact tc_cx); exact rfl; exact rfl; exact rfl)
    | (apply Y_sl; (first | exact Co_dd rfl | exact Co_bb rfl rfl rfl | exact Co_nn rfl); exact (by first | exact es_nodes | exact es_ints | exact es_nodess | exact es_by); exact rfl; exact rfl; exact fun _ => rfl)
    | (apply Y_sl_l; (first | exact Co_dd rfl | exact Co_bb rfl rfl rfl | exact Co_nn rfl); exact (by first | exact es_nodes | exact es_ints | exact es_nodess | exact es_by); exact rfl; exact fun _ => rfl)
    | (apply Y_sl_h; (first | exact Co_dd rfl | exact Co_bb rfl rfl rfl | exact Co_nn rfl); exact (by first | exact es_nodes | exact es_ints | exact es_nodess | exact es_by); exact rfl; exact fun _ => rfl)
    | (apply Y_lit0; exact (by first | exact ety_nodes | exact ety_ints | exact ety_nodess | exact ety_by); exact (by first | exact es_nodes | exact es_ints | exact es_nodess | exact es_by); exact (by first | exact zs_node | exact zs_int | exact zs_nodes | exact zs_u8); exact rfl)
    | (apply Y_lit1; exact (by first | exact ety_nodes | exact ety_ints | exact ety_nodess | exact ety_by); exact (by first | exact es_nodes | exact es_ints | exact es_nodess | exact es_by); exact (by first | exact zs_node | exact zs_int | exact zs_nodes | exact zs_u8); exact rfl; exact rfl; (first | exact CoL_d rfl CoL_nil | exact CoL_b rfl rfl rfl CoL_nil | exact CoL_n rfl CoL_nil); exact rfl)
    | (apply Y_lit2; exact (by first | exact ety_nodes | exact ety_ints | exact ety_nodess | exact ety_by); exact (by first | exact es_nodes | exact es_ints | exact es_nodess | exact es_by); exact (by first | exact zs_node | exact zs_int | exact zs_nodes | exact zs_u8); exact rfl; exact rfl; (first | exact CoL_d rfl (CoL_d rfl CoL_nil) | exact CoL_b rfl rfl rfl (CoL_b rfl rfl rfl CoL_nil)); exact rfl)
    | (apply Y_lit3; exact (by first | exact ety_nodes | exact ety_ints | exact ety_nodess | exact ety_by); exact (by first | exact es_nodes | exact es_ints | exact es_nodess | exact es_by); exact (by first | exact zs_node | exact zs_int | exact zs_nodes | exact zs_u8); exact rfl; exact rfl; (exact CoL_d rfl (CoL_d rfl (CoL_d rfl CoL_nil))); exact rfl)
    | (apply Y_lit4; exact (by first | exact ety_nodes | exact ety_ints | exact ety_nodess | exact ety_by); exact (by first | exact es_nodes | exact es_ints | exact es_nodess | exact es_by); exact (by first | exact zs_node | exact zs_int | exact zs_nodes | exact zs_u8); exact rfl; exact rfl; (exact CoL_d rfl (CoL_d rfl (CoL_d rfl (CoL_d rfl CoL_nil)))); exact rfl)
    | (apply Y_mkf; exact rfl)
    | (apply w1; exact rfl; exact rfl)
    | (apply k1 (hd := rfl); exact rfl; exact rfl)
    | (apply k0 (hd := rfl); exact rfl; exact rfl)
    | (apply gD; exact rfl; exact rfl; (intro hb); rotate_left; (intro hb); rotate_right)
    | (apply gN; exact rfl; exact rfl; (intro hb); rotate_left; (intro hb); rotate_right)
    | (apply g1; exact rfl; exact rfl; (intro hb); rotate_left; (intro hb); rotate_right)
    | (refine w0' ?_)
    | (apply aStore; exact rfl; exact rfl; exact rfl; exact (by first | exact tc_pp | exact tc_int | exact tc_nodes | exact tc_node | exact tc_ints | exact tc_kind | exact tc_i64 | exact tc_str | exact tc_bool | exact tc_ad | exact tc_by | exact tc_cx); exact rfl; exact rfl; exact rfl; exact rfl)
    | (apply awp_condD; exact rfl; (intro hb); rotate_left; (intro hb); rotate_right)
    | (apply awp_condN; exact rfl; (intro hb); rotate_left; (intro hb); rotate_right)
    | (apply awp_condT; exact rfl)
    | (apply awp_condF; exact rfl)
    | (apply awp_cond; exact rfl; (intro hb); rotate_left; (intro hb); rotate_right)
    | refine awp_block ?_
    | refine awp_skip ?_
    | refine awp_ret ?_
    | refine awp_exit ?_
    | refine awp_label ?_
    | refine awp_goto ?_
    | refine awp_draw (by kernel_rfl) (by kernel_rfl) ?_
    | refine en_r ?_
    | refine en_e ?_
    | refine eb_n ?_
    | refine eb_r ?_
    | refine eb_e ?_
    | refine eb_o rfl ?_
    | refine en_g ?_
    | refine eb_g ?_
    | refine ej_n ?_
    | refine ej_r ?_
    | refine ej_e ?_
    | refine ej_g ?_
    | refine rpost_ret ?_
    | (apply res1; exact rfl)
    | (apply res1n; exact rfl)
    | (apply res1b; exact rfl; exact rfl; (first | exact rfl | (simp; done)))
    | (apply res2; exact rfl; exact rfl)
    | (apply res2n; exact rfl; exact rfl)
    | (apply res2b; exact rfl; exact rfl; (first | exact rfl | (simp; done)); exact rfl)
    | exact CoL_nil
    | refine CoL_d rfl ?_
    | refine CoL_b rfl rfl rfl ?_
    | refine CoL_n rfl ?_
    | refine CoL_v rfl ?_
  · omega
  refine awp_loopF (α := Nat) (fun i => i ≤ n.kids.toNat)
    (fun i => [(0, .d (i64 ind)), (1, .d (bl fl)), (4, .ptr 2 0), (5, .ptr 3 0), (9, .d (i64 (seqE L ((at_ : Int) + 1) i))), (13, .d (i64 n.kids)), (14, .d (i64 (i : Int)))]) (fun i => anch fx 0 (objsK (kidsP (fun t q => layN L w m t ind fl q) L ((at_ : Int) + 1) i p) w L at_ n)) (fun i => n.kids.toNat - i) 0 (Nat.zero_le _)
      ?_ ?_
  · exact Fits_mk (Le_cons rfl (Le_cons rfl (Le_cons rfl (Le_cons rfl (Le_cons rfl (Le_cons rfl (Le_cons rfl Le_nil))))))) (Pre_cons rfl rfl (Pre_cons rfl rfl (Pre_cons rfl rfl (Pre_cons rfl rfl (Pre_cons rfl rfl (Pre_cons rfl rfl Pre_nil)))))) rfl (objsK_below ..)
  rintro i hik
  have b1 := kidsP_bd (f := fun t q => layN L w m t ind fl q) hn he (fun t q h3 h4 h5 => layN_bd hD m t ind fl q h4 (by omega) h5) hp i hik
  have hs := k4 i hik
  have hsb := seqE_bd hs hk
  have h6 : (((seqE L ((at_ : Int) + 1) i).toNat : Nat) : Int) = seqE L ((at_ : Int) + 1) i := Int.toNat_of_nonneg hs
  have hcall : (i : Int) < n.kids → MCall Try.prog 25 [.ptr 0 0, .d (nodes L), .d (i64 (seqE L ((at_ : Int) + 1) i)), .d (i64 ind), .d (bl fl)] [penOb (kidsP (fun t q => layN L w m t ind fl q) L ((at_ : Int) + 1) i p) w, rowOb (kidsP (fun t q => layN L w m t ind fl q) L ((at_ : Int) + 1) i p)]
      (.d (i64 (seqE L ((at_ : Int) + 1) (i + 1)))) [penOb (kidsP (fun t q => layN L w m t ind fl q) L ((at_ : Int) + 1) (i + 1) p) w, rowOb (kidsP (fun t q => layN L w m t ind fl q) L ((at_ : Int) + 1) (i + 1) p)] := by
    intro hlt
    have h7 := k4 (i + 1) (by omega)
    rw [seqE_succ hs] at h7 ⊢
    have := ih (seqE L ((at_ : Int) + 1) i).toNat ind fl _ (by omega) (by rw [h6]; exact h7) (by omega) b1
    rw [h6] at this
    exact this
  generalize hq2 : kidsP (fun t q => layN L w m t ind fl q) L ((at_ : Int) + 1) (i + 1) p = q2 at hcall
  generalize hq : kidsP (fun t q => layN L w m t ind fl q) L ((at_ : Int) + 1) i p = q at b1 hcall ⊢
  obtain ⟨u, out, c, r⟩ := q
  cases u
  all_goals skip
  repeat' first
    | refine en_n ?_
    | refine awp_seq ?_
    | refine awp_region ?_
    | refine alex_nil ?_
    | refine w0 ?_
    | (refine aMCall [0, 1] hb_lay (hcall hb) ?_ rfl rfl (by decide) rfl rfl rfl rfl rfl rfl ?_; (repeat (refine SArgs_cons rfl ?_)); exact SArgs_nil)
    | (apply aJ (hd := rfl); (first | exact Co_dd rfl | exact Co_bb rfl rfl rfl | exact Co_nn rfl); exact rfl; exact (by first | exact es_nodes | exact es_ints | exact es_nodess | exact es_by); assumption; omega; exact fun _ => rfl)
    | (apply aI (hd := rfl); (first | exact Co_dd rfl | exact Co_bb rfl rfl rfl | exact Co_nn rfl); exact rfl; exact (by first | exact es_nodes | exact es_ints | exact es_nodess | exact es_by); exact fun _ => rfl; rotate_left; intro v hv; rotate_right)
    | (apply aApp (hd := rfl) (hro := rfl); exact rfl; exact rfl; (first | exact Co_dd rfl | exact Co_bb rfl rfl rfl | exact Co_nn rfl); (first | exact rfl | (simp; done)); exact rfl; exact (by first | exact ety_nodes | exact ety_ints | exact ety_nodess | exact ety_by); exact (by first | exact es_nodes | exact es_ints | exact es_nodess | exact es_by); exact (by first | exact zl_node | exact zl_int | exact zl_nodes | exact zl_u8); exact (by first | exact by_nodes | exact by_ints | exact by_nodess | exact by_by); (first | exact sz_map (fun _ => rfl) | exact sz_lit rfl))
    | (apply aBox (hd := rfl) (hro := rfl); exact rfl; exact rfl)
    | (apply aAlloc (hd := rfl) (hro := rfl); exact (by first | exact zo_node | exact zo_int))
    | apply ay (hd := rfl)
    | (apply Y_move_d; exact rfl)
    | (apply Y_assign_d; exact rfl)
    | (apply Y_field_r; exact rfl; exact (by first | exact fo_0 | exact fo_1 | exact fo_2 | exact fo_3 | exact pf_0 | exact pf_1 | exact pf_2 | exact bf_0 | exact bf_1))
    | (apply Y_load_r1; exact rfl; exact (by first | exact tc_pp | exact tc_int | exact tc_nodes | exact tc_node | exact tc_ints | exact tc_kind | exact tc_i64 | exact tc_str | exact tc_bool | exact tc_ad | exact tc_by | exact tc_cx))
    | (apply Y_load_r; exact rfl; exact (by first | exact tc_pp | exact tc_int | exact tc_nodes | exact tc_node | exact tc_ints | exact tc_kind | exact tc_i64 | exact tc_str | exact tc_bool | exact tc_ad | exact tc_by | exact tc_cx); exact rfl)
    | (apply Y_len_m; exact rfl; exact (by first | exact et_nodes | exact et_ints | exact et_nodess | exact et_by))
    | (apply Y_len_d; exact rfl; exact (by first | exact et_nodes | exact et_ints | exact et_nodess | exact et_by))
    | (apply Y_lss; exact rfl; exact rfl)
    | (apply Y_leq; exact rfl; exact rfl)
    | (apply Y_gtr; exact rfl; exact rfl)
    | (apply Y_geq; exact rfl; exact rfl)
    | (apply Y_eql; exact rfl; exact rfl)
    | (apply Y_neq; exact rfl; exact rfl)
    | (apply Y_add; exact rfl; exact rfl)
    | (apply Y_sub; exact rfl; exact rfl)
    | (apply Y_mul; exact rfl; exact rfl)
    | (apply Y_not; exact rfl)
    | (apply Y_pick_t; exact rfl; exact rfl)
    | (apply Y_pick_f; exact rfl; exact rfl)
    | (apply Y_extract; exact rfl; exact rfl)
    | (apply Y_max; exact rfl; exact rfl)
    | (apply Y_move_nil; exact rfl)
    | (apply Y_assign_nil; exact rfl)
    | (apply Y_move_buf; exact rfl)
    | (apply Y_assign_buf; exact rfl)
    | (apply Y_len_buf; exact rfl; exact (by first | exact et_nodes | exact et_ints | exact et_nodess | exact et_by))
    | (apply Y_len_nil; exact rfl; exact (by first | exact et_nodes | exact et_ints | exact et_nodess | exact et_by))
    | (apply Y_move_ptr; exact rfl)
    | (apply Y_assign_ptr; exact rfl)
    | (apply Y_move_clo; exact rfl)
    | (apply Y_assign_clo; exact rfl)
    | (apply Y_field_p; exact rfl; exact (by first | exact fo_0 | exact fo_1 | exact fo_2 | exact fo_3 | exact pf_0 | exact pf_1 | exact pf_2 | exact bf_0 | exact bf_1))
    | (apply Y_load_p; exact rfl; exact (by first | exact tc_pp | exact tc_int | exact tc_nodes | exact tc_node | exact tc_ints | exact tc_kind | exact tc_i64 | exact tc_str | exact tc_bool | exact tc_ad | exact tc_by | exact tc_cx); exact rfl; exact rfl)
    | (apply Y_load_pa; exact rfl; exact (by first | exact tc_pp | exact tc_int | exact tc_nodes | exact tc_node | exact tc_ints | exact tc_kind | exact tc_i64 | exact tc_str | exact tc_bool | exact tc_ad | exact tc_by | exact tc_cx); exact rfl; exact rfl; exact rfl)
    | (apply Y_sl; (first | exact Co_dd rfl | exact Co_bb rfl rfl rfl | exact Co_nn rfl); exact (by first | exact es_nodes | exact es_ints | exact es_nodess | exact es_by); exact rfl; exact rfl; exact fun _ => rfl)
    | (apply Y_sl_l; (first | exact Co_dd rfl | exact Co_bb rfl rfl rfl | exact Co_nn rfl); exact (by first | exact es_nodes | exact es_ints | exact es_nodess | exact es_by); exact rfl; exact fun _ => rfl)
    | (apply Y_sl_h; (first | exact Co_dd rfl | exact Co_bb rfl rfl rfl | exact Co_nn rfl); exact (by first | exact es_nodes | exact es_ints | exact es_nodess | exact es_by); exact rfl; exact fun _ => rfl)
    | (apply Y_lit0; exact (by first | exact ety_nodes | exact ety_ints | exact ety_nodess | exact ety_by); exact (by first | exact es_nodes | exact es_ints | exact es_nodess | exact es_by); exact (by first | exact zs_node | exact zs_int | exact zs_nodes | exact zs_u8); exact rfl)
    | (apply Y_lit1; exact (by first | exact ety_nodes | exact ety_ints | exact ety_nodess | exact ety_by); exact (by first | exact es_nodes | exact es_ints | exact es_nodess | exact es_by); exact (by first | exact zs_node | exact zs_int | exact zs_nodes | exact zs_u8); exact rfl; exact rfl; (first | exact CoL_d rfl CoL_nil | exact CoL_b rfl rfl rfl CoL_nil | exact CoL_n rfl CoL_nil); exact rfl)
    | (apply Y_lit2; exact (by first | exact ety_nodes | exact ety_ints | exact ety_nodess | exact ety_by); exact (by first | exact es_nodes | exact es_ints | exact es_nodess | exact es_by); exact (by first | exact zs_node | exact zs_int | exact zs_nodes | exact zs_u8); exact rfl; exact rfl; (first | exact CoL_d rfl (CoL_d rfl CoL_nil) | exact CoL_b rfl rfl rfl (CoL_b rfl rfl rfl CoL_nil)); exact rfl)
    | (apply Y_lit3; exact (by first | exact ety_nodes | exact ety_ints | exact ety_nodess | exact ety_by); exact (by first | exact es_nodes | exact es_ints | exact es_nodess | exact es_by); exact (by first | exact zs_node | exact zs_int | exact zs_nodes | exact zs_u8); exact rfl; exact rfl; (exact CoL_d rfl (CoL_d rfl (CoL_d rfl CoL_nil))); exact rfl)
    | (apply Y_lit4; exact (by first | exact ety_nodes | exact ety_ints | exact ety_nodess | exact ety_by); exact (by first | exact es_nodes | exact es_ints | exact es_nodess | exact es_by); exact (by first | exact zs_node | exact zs_int | exact zs_nodes | exact zs_u8); exact rfl; exact rfl; (exact CoL_d rfl (CoL_d rfl (CoL_d rfl (CoL_d rfl CoL_nil)))); exact rfl)
    | (apply Y_mkf; exact rfl)
    | (apply w1; exact rfl; exact rfl)
    | (apply k1 (hd := rfl); exact rfl; exact rfl)
    | (apply k0 (hd := rfl); exact rfl; exact rfl)
    | (apply gD; exact rfl; exact rfl; (intro hb); rotate_left; (intro hb); rotate_right)
    | (apply gN; exact rfl; exact rfl; (intro hb); rotate_left; (intro hb); rotate_right)
    | (apply g1; exact rfl; exact rfl; (intro hb); rotate_left; (intro hb); rotate_right)
    | (refine w0' ?_)
    | (apply aStore; exact rfl; exact rfl; exact rfl; exact (by first | exact tc_pp | exact tc_int | exact tc_nodes | exact tc_node | exact tc_ints | exact tc_kind | exact tc_i64 | exact tc_str | exact tc_bool | exact tc_ad | exact tc_by | exact tc_cx); exact rfl; exact rfl; exact rfl; exact rfl)
    | (apply awp_condD; exact rfl; (intro hb); rotate_left; (intro hb); rotate_right)
    | (apply awp_condN; exact rfl; (intro hb); rotate_left; (intro hb); rotate_right)
    | (apply awp_condT; exact rfl)
    | (apply awp_condF; exact rfl)
    | (apply awp_cond; exact rfl; (intro hb); rotate_left; (intro hb); rotate_right)
    | refine awp_block ?_
    | refine awp_skip ?_
    | refine awp_ret ?_
    | refine awp_exit ?_
    | refine awp_label ?_
    | refine awp_goto ?_
    | refine awp_draw (by kernel_rfl) (by kernel_rfl) ?_
    | refine en_r ?_
    | refine en_e ?_
    | refine eb_n ?_
    | refine eb_r ?_
    | refine eb_e ?_
    | refine eb_o rfl ?_
    | refine en_g ?_
    | refine eb_g ?_
    | refine ej_n ?_
    | refine ej_r ?_
    | refine ej_e ?_
    | refine ej_g ?_
    | refine rpost_ret ?_
    | (apply res1; exact rfl)
    | (apply res1n; exact rfl)
    | (apply res1b; exact rfl; exact rfl; (first | exact rfl | (simp; done)))
    | (apply res2; exact rfl; exact rfl)
    | (apply res2n; exact rfl; exact rfl)
    | (apply res2b; exact rfl; exact rfl; (first | exact rfl | (simp; done)); exact rfl)
    | exact CoL_nil
    | refine CoL_d rfl ?_
    | refine CoL_b rfl rfl rfl ?_
    | refine CoL_n rfl ?_
    | refine CoL_v rfl ?_
  all_goals first
    | omega
    | (have hie : i = n.kids.toNat := by omega
       subst hie
       rw [hq]
       exact mpost_ret (Fits_mk (Le_d rfl (by rw [k3]) Le_nil) (Pre_cons rfl rfl (Pre_cons rfl rfl (Pre_cons rfl rfl (Pre_cons rfl rfl (Pre_cons rfl rfl (Pre_cons rfl rfl Pre_nil)))))) rfl rfl))
    | (refine ⟨i + 1, by omega, by omega, ?_⟩
       rw [hq2]
       obtain ⟨u2, o2, c2, r2⟩ := q2
       cases u2 <;> exact Fits_mk (Le_cons rfl (Le_cons rfl (Le_cons rfl (Le_cons rfl (Le_cons rfl (Le_cons rfl (Le_cons rfl Le_nil))))))) (Pre_cons rfl rfl (Pre_cons rfl rfl (Pre_cons rfl rfl (Pre_cons rfl rfl (Pre_cons rfl rfl (Pre_cons rfl rfl Pre_nil)))))) rfl rfl)

end Go.Proofs.Ytcjakkbanlgafaa
/- The layout statements: the walk of lay (text). -/
namespace Go.Proofs.Ytcjakkbanlgafaa
open Go.Sx Go.RowKit Go.Lib
attribute [local irreducible] Ylds astep alex alexE alexD awp PCall FCall RCall MCall QCall athen ablock ajump rpost fpost mpost


section
variable {L : List Nd} {w m : Nat} (hD : Doc L) (ih : LayC L w m) {at_ : Nat} {n : Nd} (hn : L[at_]? = some n) (he : 0 ≤ endF L at_) (hm : L.length ≤ m + 1 + at_)
include hD ih hn he hm

set_option maxHeartbeats 4000000 in
theorem lay_text (hk41 : n.kind = 41) (ind : Nat) (fl : Bool) (p : Pen) (hi : ind ≤ 40 * at_) (hp : Bd p at_) :
    MCall Try.prog 25 [.ptr 0 0, .d (nodes L), .d (i64 at_), .d (i64 ind), .d (bl fl)] [penOb p w, rowOb p] (.d (i64 (endF L at_))) [penOb (kidsP (fun t q => layN L w m t (ind) (fl) q) L ((at_ : Int) + 1) n.kids.toNat (p.put n.text)) w, rowOb (kidsP (fun t q => layN L w m t (ind) (fl) q) L ((at_ : Int) + 1) n.kids.toNat (p.put n.text))] := by
  obtain ⟨k1, k2, k3, k4⟩ := node_end hn he
  have hk := (List.getElem?_eq_some_iff.1 hn).1
  have hlen := hD.len
  have hbd := endF_bd L at_
  have ht := hD.text n (List.mem_of_getElem? hn)
  have hr := hD.right n (List.mem_of_getElem? hn)
  obtain ⟨u, out, c, r⟩ := p
  obtain ⟨hp1, hp2, hp3⟩ := hp
  simp only at hp1 hp2 hp3
  refine mcall_of Try.func25 rfl Try.ntmps25 Try.results25 rfl rfl rfl ?_
  intro wb St0 X fx
  repeat' first
    | refine en_n ?_
    | refine awp_seq ?_
    | refine awp_region ?_
    | refine alex_nil ?_
    | refine w0 ?_
    | (apply Y_lssT; exact rfl; exact rfl; first
    | assumption
    | omega)
    | (apply Y_lssF; exact rfl; exact rfl; first
    | assumption
    | omega)
    | (apply Y_leqT; exact rfl; exact rfl; first
    | assumption
    | omega)
    | (apply Y_leqF; exact rfl; exact rfl; first
    | assumption
    | omega)
    | (apply Y_gtrT; exact rfl; exact rfl; first
    | assumption
    | omega)
    | (apply Y_gtrF; exact rfl; exact rfl; first
    | assumption
    | omega)
    | (apply Y_geqT; exact rfl; exact rfl; first
    | assumption
    | omega)
    | (apply Y_geqF; exact rfl; exact rfl; first
    | assumption
    | omega)
    | (apply Y_eqlT; exact rfl; exact rfl; first
    | assumption
    | omega)
    | (apply Y_eqlF; exact rfl; exact rfl; first
    | assumption
    | omega)
    | (apply Y_neqT; exact rfl; exact rfl; first
    | assumption
    | omega)
    | (apply Y_neqF; exact rfl; exact rfl; first
    | assumption
    | omega)
    | (refine aMCall [0, 1] hb_put (put_ok ⟨u, out, c, r⟩ w (n.text) (by simp only ; omega) (by simp only ; omega) (by simp only; omega)) ?_ (by first
    | rfl
    | (cases u <;> rfl)) rfl (by decide) rfl rfl (by first
    | rfl
    | (cases u <;> rfl)) rfl rfl rfl ?_; (repeat (refine SArgs_cons rfl ?_)); exact SArgs_nil)
    | (refine aMClo [0, 1, 2, 3, 4, 5] [4, 5, 2, 3] rfl rfl hb_lay1 (kids_ok hD ih at_ n hn he (by omega) ind fl (Pen.put ⟨u, out, c, r⟩ n.text) (by omega) (put_bd ⟨hp1, hp2, hp3⟩ ht)) rfl ?_ (by first
    | rfl
    | (cases u <;> rfl)) rfl (by decide) rfl rfl (by first
    | rfl
    | (cases u <;> rfl)) rfl rfl rfl ?_; (repeat (refine SArgs_cons rfl ?_)); exact SArgs_nil)
    | (apply aJ (hd := rfl); (first | exact Co_dd rfl | exact Co_bb rfl rfl rfl | exact Co_nn rfl); exact rfl; exact (by first | exact es_nodes | exact es_ints | exact es_nodess | exact es_by); assumption; omega; exact fun _ => rfl)
    | (apply aI (hd := rfl); (first | exact Co_dd rfl | exact Co_bb rfl rfl rfl | exact Co_nn rfl); exact rfl; exact (by first | exact es_nodes | exact es_ints | exact es_nodess | exact es_by); exact fun _ => rfl; rotate_left; intro v hv; rotate_right)
    | (apply aApp (hd := rfl) (hro := rfl); exact rfl; exact rfl; (first | exact Co_dd rfl | exact Co_bb rfl rfl rfl | exact Co_nn rfl); (first | exact rfl | (simp; done)); exact rfl; exact (by first | exact ety_nodes | exact ety_ints | exact ety_nodess | exact ety_by); exact (by first | exact es_nodes | exact es_ints | exact es_nodess | exact es_by); exact (by first | exact zl_node | exact zl_int | exact zl_nodes | exact zl_u8); exact (by first | exact by_nodes | exact by_ints | exact by_nodess | exact by_by); (first | exact sz_map (fun _ => rfl) | exact sz_lit rfl))
    | (apply aBox (hd := rfl) (hro := rfl); exact rfl; exact rfl)
    | (apply aAlloc (hd := rfl) (hro := rfl); exact (by first | exact zo_node | exact zo_int))
    | apply ay (hd := rfl)
    | (apply Y_move_d; exact rfl)
    | (apply Y_assign_d; exact rfl)
    | (apply Y_field_r; exact rfl; exact (by first | exact fo_0 | exact fo_1 | exact fo_2 | exact fo_3 | exact pf_0 | exact pf_1 | exact pf_2 | exact bf_0 | exact bf_1))
    | (apply Y_load_r1; exact rfl; exact (by first | exact tc_pp | exact tc_int | exact tc_nodes | exact tc_node | exact tc_ints | exact tc_kind | exact tc_i64 | exact tc_str | exact tc_bool | exact tc_ad | exact tc_by | exact tc_cx))
    | (apply Y_load_r; exact rfl; exact (by first | exact tc_pp | exact tc_int | exact tc_nodes | exact tc_node | exact tc_ints | exact tc_kind | exact tc_i64 | exact tc_str | exact tc_bool | exact tc_ad | exact tc_by | exact tc_cx); exact rfl)
    | (apply Y_len_m; exact rfl; exact (by first | exact et_nodes | exact et_ints | exact et_nodess | exact et_by))
    | (apply Y_len_d; exact rfl; exact (by first | exact et_nodes | exact et_ints | exact et_nodess | exact et_by))
    | (apply Y_lss; exact rfl; exact rfl)
    | (apply Y_leq; exact rfl; exact rfl)
    | (apply Y_gtr; exact rfl; exact rfl)
    | (apply Y_geq; exact rfl; exact rfl)
    | (apply Y_eql; exact rfl; exact rfl)
    | (apply Y_neq; exact rfl; exact rfl)
    | (apply Y_add; exact rfl; exact rfl)
    | (apply Y_sub; exact rfl; exact rfl)
    | (apply Y_mul; exact rfl; exact rfl)
    | (apply Y_not; exact rfl)
    | (apply Y_pick_t; exact rfl; exact rfl)
    | (apply Y_pick_f; exact rfl; exact rfl)
    | (apply Y_extract; exact rfl; exact rfl)
    | (apply Y_max; exact rfl; exact rfl)
    | (apply Y_move_nil; exact rfl)
    | (apply Y_assign_nil; exact rfl)
    | (apply Y_move_buf; exact rfl)
    | (apply Y_assign_buf; exact rfl)
    | (apply Y_len_buf; exact rfl; exact (by first | exact et_nodes | exact et_ints | exact et_nodess | exact et_by))
    | (apply Y_len_nil; exact rfl; exact (by first | exact et_nodes | exact et_ints | exact et_nodess | exact et_by))
    | (apply Y_move_ptr; exact rfl)
    | (apply Y_assign_ptr; exact rfl)
    | (apply Y_move_clo; exact rfl)
    | (apply Y_assign_clo; exact rfl)
    | (apply Y_field_p; exact rfl; exact (by first | exact fo_0 | exact fo_1 | exact fo_2 | exact fo_3 | exact pf_0 | exact pf_1 | exact pf_2 | exact bf_0 | exact bf_1))
    | (apply Y_load_p; exact rfl; exact (by first | exact tc_pp | exact tc_int | exact tc_nodes | exact tc_node | exact tc_ints | exact tc_kind | exact tc_i64 | exact tc_str | exact tc_bool | exact tc_ad | exact tc_by | exact tc_cx); exact rfl; exact rfl)
    | (apply Y_load_pa; exact rfl; exact (by first | exact tc_pp | exact tc_int | exact tc_nodes | exact tc_node | exact tc_ints | exact tc_kind | exact tc_i64 | exact tc_str | exact tc_bool | exact tc_ad | exact tc_by | exact tc_cx); exact rfl; exact rfl; exact rfl)
    | (apply Y_sl; (first | exact Co_dd rfl | exact Co_bb rfl rfl rfl | exact Co_nn rfl); exact (by first | exact es_nodes | exact es_ints | exact es_nodess | exact es_by); exact rfl; exact rfl; exact fun _ => rfl)
    | (apply Y_sl_l; (first | exact Co_dd rfl | exact Co_bb rfl rfl rfl | exact Co_nn rfl); exact (by first | exact es_nodes | exact es_ints | exact es_nodess | exact es_by); exact rfl; exact fun _ => rfl)
    | (apply Y_sl_h; (first | exact Co_dd rfl | exact Co_bb rfl rfl rfl | exact Co_nn rfl); exact (by first | exact es_nodes | exact es_ints | exact es_nodess | exact es_by); exact rfl; exact fun _ => rfl)
    | (apply Y_lit0; exact (by first | exact ety_nodes | exact ety_ints | exact ety_nodess | exact ety_by); exact (by first | exact es_nodes | exact es_ints | exact es_nodess | exact es_by); exact (by first | exact zs_node | exact zs_int | exact zs_nodes | exact zs_u8); exact rfl)
    | (apply Y_lit1; exact (by first | exact ety_nodes | exact ety_ints | exact ety_nodess | exact ety_by); exact (by first | exact es_nodes | exact es_ints | exact es_nodess | exact es_by); exact (by first | exact zs_node | exact zs_int | exact zs_nodes | exact zs_u8); exact rfl; exact rfl; (first | exact CoL_d rfl CoL_nil | exact CoL_b rfl rfl rfl CoL_nil | exact CoL_n rfl CoL_nil); exact rfl)
    | (apply Y_lit2; exact (by first | exact ety_nodes | exact ety_ints | exact ety_nodess | exact ety_by); exact (by first | exact es_nodes | exact es_ints | exact es_nodess | exact es_by); exact (by first | exact zs_node | exact zs_int | exact zs_nodes | exact zs_u8); exact rfl; exact rfl; (first | exact CoL_d rfl (CoL_d rfl CoL_nil) | exact CoL_b rfl rfl rfl (CoL_b rfl rfl rfl CoL_nil)); exact rfl)
    | (apply Y_lit3; exact (by first | exact ety_nodes | exact ety_ints | exact ety_nodess | exact ety_by); exact (by first | exact es_nodes | exact es_ints | exact es_nodess | exact es_by); exact (by first | exact zs_node | exact zs_int | exact zs_nodes | exact zs_u8); exact rfl; exact rfl; (exact CoL_d rfl (CoL_d rfl (CoL_d rfl CoL_nil))); exact rfl)
    | (apply Y_lit4; exact (by first | exact ety_nodes | exact ety_ints | exact ety_nodess | exact ety_by); exact (by first | exact es_nodes | exact es_ints | exact es_nodess | exact es_by); exact (by first | exact zs_node | exact zs_int | exact zs_nodes | exact zs_u8); exact rfl; exact rfl; (exact CoL_d rfl (CoL_d rfl (CoL_d rfl (CoL_d rfl CoL_nil)))); exact rfl)
    | (apply Y_mkf; exact rfl)
    | (apply w1; exact rfl; exact rfl)
    | (apply k1 (hd := rfl); exact rfl; exact rfl)
    | (apply k0 (hd := rfl); exact rfl; exact rfl)
    | (apply gD; exact rfl; exact rfl; (intro hb); rotate_left; (intro hb); rotate_right)
    | (apply gN; exact rfl; exact rfl; (intro hb); rotate_left; (intro hb); rotate_right)
    | (apply g1; exact rfl; exact rfl; (intro hb); rotate_left; (intro hb); rotate_right)
    | (refine w0' ?_)
    | (apply aStore; exact rfl; exact rfl; exact rfl; exact (by first | exact tc_pp | exact tc_int | exact tc_nodes | exact tc_node | exact tc_ints | exact tc_kind | exact tc_i64 | exact tc_str | exact tc_bool | exact tc_ad | exact tc_by | exact tc_cx); exact rfl; exact rfl; exact rfl; exact rfl)
    | (apply awp_condD; exact rfl; (intro hb); rotate_left; (intro hb); rotate_right)
    | (apply awp_condN; exact rfl; (intro hb); rotate_left; (intro hb); rotate_right)
    | (apply awp_condT; exact rfl)
    | (apply awp_condF; exact rfl)
    | (apply awp_cond; exact rfl; (intro hb); rotate_left; (intro hb); rotate_right)
    | refine awp_block ?_
    | refine awp_skip ?_
    | refine awp_ret ?_
    | refine awp_exit ?_
    | refine awp_label ?_
    | refine awp_goto ?_
    | refine awp_draw (by kernel_rfl) (by kernel_rfl) ?_
    | refine en_r ?_
    | refine en_e ?_
    | refine eb_n ?_
    | refine eb_r ?_
    | refine eb_e ?_
    | refine eb_o rfl ?_
    | refine en_g ?_
    | refine eb_g ?_
    | refine ej_n ?_
    | refine ej_r ?_
    | refine ej_e ?_
    | refine ej_g ?_
    | refine rpost_ret ?_
    | (apply res1; exact rfl)
    | (apply res1n; exact rfl)
    | (apply res1b; exact rfl; exact rfl; (first | exact rfl | (simp; done)))
    | (apply res2; exact rfl; exact rfl)
    | (apply res2n; exact rfl; exact rfl)
    | (apply res2b; exact rfl; exact rfl; (first | exact rfl | (simp; done)); exact rfl)
    | exact CoL_nil
    | refine CoL_d rfl ?_
    | refine CoL_b rfl rfl rfl ?_
    | refine CoL_n rfl ?_
    | refine CoL_v rfl ?_
  all_goals try omega
  all_goals
    generalize kidsP _ L _ _ _ = Y
    obtain ⟨u2, o2, c2, r2⟩ := Y
    cases u2 <;> exact mpost_ret (Fits_mk (Le_cons rfl Le_nil) (Pre_cons rfl rfl (Pre_cons rfl rfl Pre_nil)) rfl rfl)
end
end Go.Proofs.Ytcjakkbanlgafaa
/- The layout statements: the walk of lay (blank). -/
namespace Go.Proofs.Ytcjakkbanlgafaa
open Go.Sx Go.RowKit Go.Lib
attribute [local irreducible] Ylds astep alex alexE alexD awp PCall FCall RCall MCall QCall athen ablock ajump rpost fpost mpost


section
variable {L : List Nd} {w m : Nat} (hD : Doc L) (ih : LayC L w m) {at_ : Nat} {n : Nd} (hn : L[at_]? = some n) (he : 0 ≤ endF L at_) (hm : L.length ≤ m + 1 + at_)
include hD ih hn he hm

set_option maxHeartbeats 4000000 in
theorem lay_blank (hk42 : n.kind = 42) (ind : Nat) (p : Pen) (hi : ind ≤ 40 * at_) (hp : Bd p at_) :
    MCall Try.prog 25 [.ptr 0 0, .d (nodes L), .d (i64 at_), .d (i64 ind), .d (bl true)] [penOb p w, rowOb p] (.d (i64 (endF L at_))) [penOb (kidsP (fun t q => layN L w m t (ind) (true) q) L ((at_ : Int) + 1) n.kids.toNat (p.put [32])) w, rowOb (kidsP (fun t q => layN L w m t (ind) (true) q) L ((at_ : Int) + 1) n.kids.toNat (p.put [32]))] := by
  obtain ⟨k1, k2, k3, k4⟩ := node_end hn he
  have hk := (List.getElem?_eq_some_iff.1 hn).1
  have hlen := hD.len
  have hbd := endF_bd L at_
  have ht := hD.text n (List.mem_of_getElem? hn)
  have hr := hD.right n (List.mem_of_getElem? hn)
  obtain ⟨u, out, c, r⟩ := p
  obtain ⟨hp1, hp2, hp3⟩ := hp
  simp only at hp1 hp2 hp3
  refine mcall_of Try.func25 rfl Try.ntmps25 Try.results25 rfl rfl rfl ?_
  intro wb St0 X fx
  repeat' first
    | refine en_n ?_
    | refine awp_seq ?_
    | refine awp_region ?_
    | refine alex_nil ?_
    | refine w0 ?_
    | (apply Y_lssT; exact rfl; exact rfl; first
    | assumption
    | omega)
    | (apply Y_lssF; exact rfl; exact rfl; first
    | assumption
    | omega)
    | (apply Y_leqT; exact rfl; exact rfl; first
    | assumption
    | omega)
    | (apply Y_leqF; exact rfl; exact rfl; first
    | assumption
    | omega)
    | (apply Y_gtrT; exact rfl; exact rfl; first
    | assumption
    | omega)
    | (apply Y_gtrF; exact rfl; exact rfl; first
    | assumption
    | omega)
    | (apply Y_geqT; exact rfl; exact rfl; first
    | assumption
    | omega)
    | (apply Y_geqF; exact rfl; exact rfl; first
    | assumption
    | omega)
    | (apply Y_eqlT; exact rfl; exact rfl; first
    | assumption
    | omega)
    | (apply Y_eqlF; exact rfl; exact rfl; first
    | assumption
    | omega)
    | (apply Y_neqT; exact rfl; exact rfl; first
    | assumption
    | omega)
    | (apply Y_neqF; exact rfl; exact rfl; first
    | assumption
    | omega)
    | (refine aMCall [0, 1] hb_put (put_ok ⟨u, out, c, r⟩ w ([32]) (by simp only [List.length_singleton]; omega) (by simp only [List.length_singleton]; omega) (by simp only; omega)) ?_ (by first
    | rfl
    | (cases u <;> rfl)) rfl (by decide) rfl rfl (by first
    | rfl
    | (cases u <;> rfl)) rfl rfl rfl ?_; (repeat (refine SArgs_cons rfl ?_)); exact SArgs_nil)
    | (refine aMClo [0, 1, 2, 3, 4, 5] [4, 5, 2, 3] rfl rfl hb_lay1 (kids_ok hD ih at_ n hn he (by omega) ind true (Pen.put ⟨u, out, c, r⟩ [32]) (by omega) (put_bd ⟨hp1, hp2, hp3⟩ (by decide))) rfl ?_ (by first
    | rfl
    | (cases u <;> rfl)) rfl (by decide) rfl rfl (by first
    | rfl
    | (cases u <;> rfl)) rfl rfl rfl ?_; (repeat (refine SArgs_cons rfl ?_)); exact SArgs_nil)
    | (apply aJ (hd := rfl); (first | exact Co_dd rfl | exact Co_bb rfl rfl rfl | exact Co_nn rfl); exact rfl; exact (by first | exact es_nodes | exact es_ints | exact es_nodess | exact es_by); assumption; omega; exact fun _ => rfl)
    | (apply aI (hd := rfl); (first | exact Co_dd rfl | exact Co_bb rfl rfl rfl | exact Co_nn rfl); exact rfl; exact (by first | exact es_nodes | exact es_ints | exact es_nodess | exact es_by); exact fun _ => rfl; rotate_left; intro v hv; rotate_right)
    | (apply aApp (hd := rfl) (hro := rfl); exact rfl; exact rfl; (first | exact Co_dd rfl | exact Co_bb rfl rfl rfl | exact Co_nn rfl); (first | exact rfl | (simp; done)); exact rfl; exact (by first | exact ety_nodes | exact ety_ints | exact ety_nodess | exact ety_by); exact (by first | exact es_nodes | exact es_ints | exact es_nodess | exact es_by); exact (by first | exact zl_node | exact zl_int | exact zl_nodes | exact zl_u8); exact (by first | exact by_nodes | exact by_ints | exact by_nodess | exact by_by); (first | exact sz_map (fun _ => rfl) | exact sz_lit rfl))
    | (apply aBox (hd := rfl) (hro := rfl); exact rfl; exact rfl)
    | (apply aAlloc (hd := rfl) (hro := rfl); exact (by first | exact zo_node | exact zo_int))
    | apply ay (hd := rfl)
    | (apply Y_move_d; exact rfl)
    | (apply Y_assign_d; exact rfl)
    | (apply Y_field_r; exact rfl; exact (by first | exact fo_0 | exact fo_1 | exact fo_2 | exact fo_3 | exact pf_0 | exact pf_1 | exact pf_2 | exact bf_0 | exact bf_1))
    | (apply Y_load_r1; exact rfl; exact (by first | exact tc_pp | exact tc_int | exact tc_nodes | exact tc_node | exact tc_ints | exact tc_kind | exact tc_i64 | exact tc_str | exact tc_bool | exact tc_ad | exact tc_by | exact tc_cx))
    | (apply Y_load_r; exact rfl; exact (by first | exact tc_pp | exact tc_int | exact tc_nodes | exact tc_node | exact tc_ints | exact tc_kind | exact tc_i64 | exact tc_str | exact tc_bool | exact tc_ad | exact tc_by | exact tc_cx); exact rfl)
    | (apply Y_len_m; exact rfl; exact (by first | exact et_nodes | exact et_ints | exact et_nodess | exact et_by))
    | (apply Y_len_d; exact rfl; exact (by first | exact et_nodes | exact et_ints | exact et_nodess | exact et_by))
    | (apply Y_lss; exact rfl; exact rfl)
    | (apply Y_leq; exact rfl; exact rfl)
    | (apply Y_gtr; exact rfl; exact rfl)
    | (apply Y_geq; exact rfl; exact rfl)
    | (apply Y_eql; exact rfl; exact rfl)
    | (apply Y_neq; exact rfl; exact rfl)
    | (apply Y_add; exact rfl; exact rfl)
    | (apply Y_sub; exact rfl; exact rfl)
    | (apply Y_mul; exact rfl; exact rfl)
    | (apply Y_not; exact rfl)
    | (apply Y_pick_t; exact rfl; exact rfl)
    | (apply Y_pick_f; exact rfl; exact rfl)
    | (apply Y_extract; exact rfl; exact rfl)
    | (apply Y_max; exact rfl; exact rfl)
    | (apply Y_move_nil; exact rfl)
    | (apply Y_assign_nil; exact rfl)
    | (apply Y_move_buf; exact rfl)
    | (apply Y_assign_buf; exact rfl)
    | (apply Y_len_buf; exact rfl; exact (by first | exact et_nodes | exact et_ints | exact et_nodess | exact et_by))
    | (apply Y_len_nil; exact rfl; exact (by first | exact et_nodes | exact et_ints | exact et_nodess | exact et_by))
    | (apply Y_move_ptr; exact rfl)
    | (apply Y_assign_ptr; exact rfl)
    | (apply Y_move_clo; exact rfl)
    | (apply Y_assign_clo; exact rfl)
    | (apply Y_field_p; exact rfl; exact (by first | exact fo_0 | exact fo_1 | exact fo_2 | exact fo_3 | exact pf_0 | exact pf_1 | exact pf_2 | exact bf_0 | exact bf_1))
    | (apply Y_load_p; exact rfl; exact (by first | exact tc_pp | exact tc_int | exact tc_nodes | exact tc_node | exact tc_ints | exact tc_kind | exact tc_i64 | exact tc_str | exact tc_bool | exact tc_ad | exact tc_by | exact tc_cx); exact rfl; exact rfl)
    | (apply Y_load_pa; exact rfl; exact (by first | exact tc_pp | exact tc_int | exact tc_nodes | exact tc_node | exact tc_ints | exact tc_kind | exact tc_i64 | exact tc_str | exact tc_bool | exact tc_ad | exact tc_by | exact tc_cx); exact rfl; exact rfl; exact rfl)
    | (apply Y_sl; (first | exact Co_dd rfl | exact Co_bb rfl rfl rfl | exact Co_nn rfl); exact (by first | exact es_nodes | exact es_ints | exact es_nodess | exact es_by); exact rfl; exact rfl; exact fun _ => rfl)
    | (apply Y_sl_l; (first | exact Co_dd rfl | exact Co_bb rfl rfl rfl | exact Co_nn rfl); exact (by first | exact es_nodes | exact es_ints | exact es_nodess | exact es_by); exact rfl; exact fun _ => rfl)
    | (apply Y_sl_h; (first | exact Co_dd rfl | exact Co_bb rfl rfl rfl | exact Co_nn rfl); exact (by first | exact es_nodes | exact es_ints | exact es_nodess | exact es_by); exact rfl; exact fun _ => rfl)
    | (apply Y_lit0; exact (by first | exact ety_nodes | exact ety_ints | exact ety_nodess | exact ety_by); exact (by first | exact es_nodes | exact es_ints | exact es_nodess | exact es_by); exact (by first | exact zs_node | exact zs_int | exact zs_nodes | exact zs_u8); exact rfl)
    | (apply Y_lit1; exact (by first | exact ety_nodes | exact ety_ints | exact ety_nodess | exact ety_by); exact (by first | exact es_nodes | exact es_ints | exact es_nodess | exact es_by); exact (by first | exact zs_node | exact zs_int | exact zs_nodes | exact zs_u8); exact rfl; exact rfl; (first | exact CoL_d rfl CoL_nil | exact CoL_b rfl rfl rfl CoL_nil | exact CoL_n rfl CoL_nil); exact rfl)
    | (apply Y_lit2; exact (by first | exact ety_nodes | exact ety_ints | exact ety_nodess | exact ety_by); exact (by first | exact es_nodes | exact es_ints | exact es_nodess | exact es_by); exact (by first | exact zs_node | exact zs_int | exact zs_nodes | exact zs_u8); exact rfl; exact rfl; (first | exact CoL_d rfl (CoL_d rfl CoL_nil) | exact CoL_b rfl rfl rfl (CoL_b rfl rfl rfl CoL_nil)); exact rfl)
    | (apply Y_lit3; exact (by first | exact ety_nodes | exact ety_ints | exact ety_nodess | exact ety_by); exact (by first | exact es_nodes | exact es_ints | exact es_nodess | exact es_by); exact (by first | exact zs_node | exact zs_int | exact zs_nodes | exact zs_u8); exact rfl; exact rfl; (exact CoL_d rfl (CoL_d rfl (CoL_d rfl CoL_nil))); exact rfl)
    | (apply Y_lit4; exact (by first | exact ety_nodes | exact ety_ints | exact ety_nodess | exact ety_by); exact (by first | exact es_nodes | exact es_ints | exact es_nodess | exact es_by); exact (by first | exact zs_node | exact zs_int | exact zs_nodes | exact zs_u8); exact rfl; exact rfl; (exact CoL_d rfl (CoL_d rfl (CoL_d rfl (CoL_d rfl CoL_nil)))); exact rfl)
    | (apply Y_mkf; exact rfl)
    | (apply w1; exact rfl; exact rfl)
    | (apply k1 (hd := rfl); exact rfl; exact rfl)
    | (apply k0 (hd := rfl); exact rfl; exact rfl)
    | (apply gD; exact rfl; exact rfl; (intro hb); rotate_left; (intro hb); rotate_right)
    | (apply gN; exact rfl; exact rfl; (intro hb); rotate_left; (intro hb); rotate_right)
    | (apply g1; exact rfl; exact rfl; (intro hb); rotate_left; (intro hb); rotate_right)
    | (refine w0' ?_)
    | (apply aStore; exact rfl; exact rfl; exact rfl; exact (by first | exact tc_pp | exact tc_int | exact tc_nodes | exact tc_node | exact tc_ints | exact tc_kind | exact tc_i64 | exact tc_str | exact tc_bool | exact tc_ad | exact tc_by | exact tc_cx); exact rfl; exact rfl; exact rfl; exact rfl)
    | (apply awp_condD; exact rfl; (intro hb); rotate_left; (intro hb); rotate_right)
    | (apply awp_condN; exact rfl; (intro hb); rotate_left; (intro hb); rotate_right)
    | (apply awp_condT; exact rfl)
    | (apply awp_condF; exact rfl)
    | (apply awp_cond; exact rfl; (intro hb); rotate_left; (intro hb); rotate_right)
    | refine awp_block ?_
    | refine awp_skip ?_
    | refine awp_ret ?_
    | refine awp_exit ?_
    | refine awp_label ?_
    | refine awp_goto ?_
    | refine awp_draw (by kernel_rfl) (by kernel_rfl) ?_
    | refine en_r ?_
    | refine en_e ?_
    | refine eb_n ?_
    | refine eb_r ?_
    | refine eb_e ?_
    | refine eb_o rfl ?_
    | refine en_g ?_
    | refine eb_g ?_
    | refine ej_n ?_
    | refine ej_r ?_
    | refine ej_e ?_
    | refine ej_g ?_
    | refine rpost_ret ?_
    | (apply res1; exact rfl)
    | (apply res1n; exact rfl)
    | (apply res1b; exact rfl; exact rfl; (first | exact rfl | (simp; done)))
    | (apply res2; exact rfl; exact rfl)
    | (apply res2n; exact rfl; exact rfl)
    | (apply res2b; exact rfl; exact rfl; (first | exact rfl | (simp; done)); exact rfl)
    | exact CoL_nil
    | refine CoL_d rfl ?_
    | refine CoL_b rfl rfl rfl ?_
    | refine CoL_n rfl ?_
    | refine CoL_v rfl ?_
  all_goals try omega
  all_goals
    generalize kidsP _ L _ _ _ = Y
    obtain ⟨u2, o2, c2, r2⟩ := Y
    cases u2 <;> exact mpost_ret (Fits_mk (Le_cons rfl Le_nil) (Pre_cons rfl rfl (Pre_cons rfl rfl Pre_nil)) rfl rfl)
end
end Go.Proofs.Ytcjakkbanlgafaa
/- The layout statements: the walk of lay (line). -/
namespace Go.Proofs.Ytcjakkbanlgafaa
open Go.Sx Go.RowKit Go.Lib
attribute [local irreducible] Ylds astep alex alexE alexD awp PCall FCall RCall MCall QCall athen ablock ajump rpost fpost mpost


section
variable {L : List Nd} {w m : Nat} (hD : Doc L) (ih : LayC L w m) {at_ : Nat} {n : Nd} (hn : L[at_]? = some n) (he : 0 ≤ endF L at_) (hm : L.length ≤ m + 1 + at_)
include hD ih hn he hm

set_option maxHeartbeats 4000000 in
theorem lay_line (hk42 : n.kind = 42) (ind : Nat) (p : Pen) (hi : ind ≤ 40 * at_) (hp : Bd p at_) :
    MCall Try.prog 25 [.ptr 0 0, .d (nodes L), .d (i64 at_), .d (i64 ind), .d (bl false)] [penOb p w, rowOb p] (.d (i64 (endF L at_))) [penOb (kidsP (fun t q => layN L w m t (ind) (false) q) L ((at_ : Int) + 1) n.kids.toNat (p.feed ind)) w, rowOb (kidsP (fun t q => layN L w m t (ind) (false) q) L ((at_ : Int) + 1) n.kids.toNat (p.feed ind))] := by
  obtain ⟨k1, k2, k3, k4⟩ := node_end hn he
  have hk := (List.getElem?_eq_some_iff.1 hn).1
  have hlen := hD.len
  have hbd := endF_bd L at_
  have ht := hD.text n (List.mem_of_getElem? hn)
  have hr := hD.right n (List.mem_of_getElem? hn)
  obtain ⟨u, out, c, r⟩ := p
  obtain ⟨hp1, hp2, hp3⟩ := hp
  simp only at hp1 hp2 hp3
  refine mcall_of Try.func25 rfl Try.ntmps25 Try.results25 rfl rfl rfl ?_
  intro wb St0 X fx
  repeat' first
    | refine en_n ?_
    | refine awp_seq ?_
    | refine awp_region ?_
    | refine alex_nil ?_
    | refine w0 ?_
    | (apply Y_lssT; exact rfl; exact rfl; first
    | assumption
    | omega)
    | (apply Y_lssF; exact rfl; exact rfl; first
    | assumption
    | omega)
    | (apply Y_leqT; exact rfl; exact rfl; first
    | assumption
    | omega)
    | (apply Y_leqF; exact rfl; exact rfl; first
    | assumption
    | omega)
    | (apply Y_gtrT; exact rfl; exact rfl; first
    | assumption
    | omega)
    | (apply Y_gtrF; exact rfl; exact rfl; first
    | assumption
    | omega)
    | (apply Y_geqT; exact rfl; exact rfl; first
    | assumption
    | omega)
    | (apply Y_geqF; exact rfl; exact rfl; first
    | assumption
    | omega)
    | (apply Y_eqlT; exact rfl; exact rfl; first
    | assumption
    | omega)
    | (apply Y_eqlF; exact rfl; exact rfl; first
    | assumption
    | omega)
    | (apply Y_neqT; exact rfl; exact rfl; first
    | assumption
    | omega)
    | (apply Y_neqF; exact rfl; exact rfl; first
    | assumption
    | omega)
    | (refine aMCall [0, 1] hb_feed (feed_ok ⟨u, out, c, r⟩ w ind (by simp only; omega) (by omega) (by simp only; omega)) ?_ (by first
    | rfl
    | (cases u <;> rfl)) rfl (by decide) rfl rfl (by first
    | rfl
    | (cases u <;> rfl)) rfl rfl rfl ?_; (repeat (refine SArgs_cons rfl ?_)); exact SArgs_nil)
    | (refine aMClo [0, 1, 2, 3, 4, 5] [4, 5, 2, 3] rfl rfl hb_lay1 (kids_ok hD ih at_ n hn he (by omega) ind false (Pen.feed ⟨u, out, c, r⟩ ind) (by omega) (feed_bd ⟨hp1, hp2, hp3⟩ (by omega))) rfl ?_ (by first
    | rfl
    | (cases u <;> rfl)) rfl (by decide) rfl rfl (by first
    | rfl
    | (cases u <;> rfl)) rfl rfl rfl ?_; (repeat (refine SArgs_cons rfl ?_)); exact SArgs_nil)
    | (apply aJ (hd := rfl); (first | exact Co_dd rfl | exact Co_bb rfl rfl rfl | exact Co_nn rfl); exact rfl; exact (by first | exact es_nodes | exact es_ints | exact es_nodess | exact es_by); assumption; omega; exact fun _ => rfl)
    | (apply aI (hd := rfl); (first | exact Co_dd rfl | exact Co_bb rfl rfl rfl | exact Co_nn rfl); exact rfl; exact (by first | exact es_nodes | exact es_ints | exact es_nodess | exact es_by); exact fun _ => rfl; rotate_left; intro v hv; rotate_right)
    | (apply aApp (hd := rfl) (hro := rfl); exact rfl; exact rfl; (first | exact Co_dd rfl | exact Co_bb rfl rfl rfl | exact Co_nn rfl); (first | exact rfl | (simp; done)); exact rfl; exact (by first | exact ety_nodes | exact ety_ints | exact ety_nodess | exact ety_by); exact (by first | exact es_nodes | exact es_ints | exact es_nodess | exact es_by); exact (by first | exact zl_node | exact zl_int | exact zl_nodes | exact zl_u8); exact (by first | exact by_nodes | exact by_ints | exact by_nodess | exact by_by); (first | exact sz_map (fun _ => rfl) | exact sz_lit rfl))
    | (apply aBox (hd := rfl) (hro := rfl); exact rfl; exact rfl)
    | (apply aAlloc (hd := rfl) (hro := rfl); exact (by first | exact zo_node | exact zo_int))
    | apply ay (hd := rfl)
    | (apply Y_move_d; exact rfl)
    | (apply Y_assign_d; exact rfl)
    | (apply Y_field_r; exact rfl; exact (by first | exact fo_0 | exact fo_1 | exact fo_2 | exact fo_3 | exact pf_0 | exact pf_1 | exact pf_2 | exact bf_0 | exact bf_1))
    | (apply Y_load_r1; exact rfl; exact (by first | exact tc_pp | exact tc_int | exact tc_nodes | exact tc_node | exact tc_ints | exact tc_kind | exact tc_i64 | exact tc_str | exact tc_bool | exact tc_ad | exact tc_by | exact tc_cx))
    | (apply Y_load_r; exact rfl; exact (by first | exact tc_pp | exact tc_int | exact tc_nodes | exact tc_node | exact tc_ints | exact tc_kind | exact tc_i64 | exact tc_str | exact tc_bool | exact tc_ad | exact tc_by | exact tc_cx); exact rfl)
    | (apply Y_len_m; exact rfl; exact (by first | exact et_nodes | exact et_ints | exact et_nodess | exact et_by))
    | (apply Y_len_d; exact rfl; exact (by first | exact et_nodes | exact et_ints | exact et_nodess | exact et_by))
    | (apply Y_lss; exact rfl; exact rfl)
    | (apply Y_leq; exact rfl; exact rfl)
    | (apply Y_gtr; exact rfl; exact rfl)
    | (apply Y_geq; exact rfl; exact rfl)
    | (apply Y_eql; exact rfl; exact rfl)
    | (apply Y_neq; exact rfl; exact rfl)
    | (apply Y_add; exact rfl; exact rfl)
    | (apply Y_sub; exact rfl; exact rfl)
    | (apply Y_mul; exact rfl; exact rfl)
    | (apply Y_not; exact rfl)
    | (apply Y_pick_t; exact rfl; exact rfl)
    | (apply Y_pick_f; exact rfl; exact rfl)
    | (apply Y_extract; exact rfl; exact rfl)
    | (apply Y_max; exact rfl; exact rfl)
    | (apply Y_move_nil; exact rfl)
    | (apply Y_assign_nil; exact rfl)
    | (apply Y_move_buf; exact rfl)
    | (apply Y_assign_buf; exact rfl)
    | (apply Y_len_buf; exact rfl; exact (by first | exact et_nodes | exact et_ints | exact et_nodess | exact et_by))
    | (apply Y_len_nil; exact rfl; exact (by first | exact et_nodes | exact et_ints | exact et_nodess | exact et_by))
    | (apply Y_move_ptr; exact rfl)
    | (apply Y_assign_ptr; exact rfl)
    | (apply Y_move_clo; exact rfl)
    | (apply Y_assign_clo; exact rfl)
    | (apply Y_field_p; exact rfl; exact (by first | exact fo_0 | exact fo_1 | exact fo_2 | exact fo_3 | exact pf_0 | exact pf_1 | exact pf_2 | exact bf_0 | exact bf_1))
    | (apply Y_load_p; exact rfl; exact (by first | exact tc_pp | exact tc_int | exact tc_nodes | exact tc_node | exact tc_ints | exact tc_kind | exact tc_i64 | exact tc_str | exact tc_bool | exact tc_ad | exact tc_by | exact tc_cx); exact rfl; exact rfl)
    | (apply Y_load_pa; exact rfl; exact (by first | exact tc_pp | exact tc_int | exact tc_nodes | exact tc_node | exact tc_ints | exact tc_kind | exact tc_i64 | exact tc_str | exact tc_bool | exact tc_ad | exact tc_by | exact tc_cx); exact rfl; exact rfl; exact rfl)
    | (apply Y_sl; (first | exact Co_dd rfl | exact Co_bb rfl rfl rfl | exact Co_nn rfl); exact (by first | exact es_nodes | exact es_ints | exact es_nodess | exact es_by); exact rfl; exact rfl; exact fun _ => rfl)
    | (apply Y_sl_l; (first | exact Co_dd rfl | exact Co_bb rfl rfl rfl | exact Co_nn rfl); exact (by first | exact es_nodes | exact es_ints | exact es_nodess | exact es_by); exact rfl; exact fun _ => rfl)
    | (apply Y_sl_h; (first | exact Co_dd rfl | exact Co_bb rfl rfl rfl | exact Co_nn rfl); exact (by first | exact es_nodes | exact es_ints | exact es_nodess | exact es_by); exact rfl; exact fun _ => rfl)
    | (apply Y_lit0; exact (by first | exact ety_nodes | exact ety_ints | exact ety_nodess | exact ety_by); exact (by first | exact es_nodes | exact es_ints | exact es_nodess | exact es_by); exact (by first | exact zs_node | exact zs_int | exact zs_nodes | exact zs_u8); exact rfl)
    | (apply Y_lit1; exact (by first | exact ety_nodes | exact ety_ints | exact ety_nodess | exact ety_by); exact (by first | exact es_nodes | exact es_ints | exact es_nodess | exact es_by); exact (by first | exact zs_node | exact zs_int | exact zs_nodes | exact zs_u8); exact rfl; exact rfl; (first | exact CoL_d rfl CoL_nil | exact CoL_b rfl rfl rfl CoL_nil | exact CoL_n rfl CoL_nil); exact rfl)
    | (apply Y_lit2; exact (by first | exact ety_nodes | exact ety_ints | exact ety_nodess | exact ety_by); exact (by first | exact es_nodes | exact es_ints | exact es_nodess | exact es_by); exact (by first | exact zs_node | exact zs_int | exact zs_nodes | exact zs_u8); exact rfl; exact rfl; (first | exact CoL_d rfl (CoL_d rfl CoL_nil) | exact CoL_b rfl rfl rfl (CoL_b rfl rfl rfl CoL_nil)); exact rfl)
    | (apply Y_lit3; exact (by first | exact ety_nodes | exact ety_ints | exact ety_nodess | exact ety_by); exact (by first | exact es_nodes | exact es_ints | exact es_nodess | exact es_by); exact (by first | exact zs_node | exact zs_int | exact zs_nodes | exact zs_u8); exact rfl; exact rfl; (exact CoL_d rfl (CoL_d rfl (CoL_d rfl CoL_nil))); exact rfl)
    | (apply Y_lit4; exact (by first | exact ety_nodes | exact ety_ints | exact ety_nodess | exact ety_by); exact (by first | exact es_nodes | exact es_ints | exact es_nodess | exact es_by); exact (by first | exact zs_node | exact zs_int | exact zs_nodes | exact zs_u8); exact rfl; exact rfl; (exact CoL_d rfl (CoL_d rfl (CoL_d rfl (CoL_d rfl CoL_nil)))); exact rfl)
    | (apply Y_mkf; exact rfl)
    | (apply w1; exact rfl; exact rfl)
    | (apply k1 (hd := rfl); exact rfl; exact rfl)
    | (apply k0 (hd := rfl); exact rfl; exact rfl)
    | (apply gD; exact rfl; exact rfl; (intro hb); rotate_left; (intro hb); rotate_right)
    | (apply gN; exact rfl; exact rfl; (intro hb); rotate_left; (intro hb); rotate_right)
    | (apply g1; exact rfl; exact rfl; (intro hb); rotate_left; (intro hb); rotate_right)
    | (refine w0' ?_)
    | (apply aStore; exact rfl; exact rfl; exact rfl; exact (by first | exact tc_pp | exact tc_int | exact tc_nodes | exact tc_node | exact tc_ints | exact tc_kind | exact tc_i64 | exact tc_str | exact tc_bool | exact tc_ad | exact tc_by | exact tc_cx); exact rfl; exact rfl; exact rfl; exact rfl)
    | (apply awp_condD; exact rfl; (intro hb); rotate_left; (intro hb); rotate_right)
    | (apply awp_condN; exact rfl; (intro hb); rotate_left; (intro hb); rotate_right)
    | (apply awp_condT; exact rfl)
    | (apply awp_condF; exact rfl)
    | (apply awp_cond; exact rfl; (intro hb); rotate_left; (intro hb); rotate_right)
    | refine awp_block ?_
    | refine awp_skip ?_
    | refine awp_ret ?_
    | refine awp_exit ?_
    | refine awp_label ?_
    | refine awp_goto ?_
    | refine awp_draw (by kernel_rfl) (by kernel_rfl) ?_
    | refine en_r ?_
    | refine en_e ?_
    | refine eb_n ?_
    | refine eb_r ?_
    | refine eb_e ?_
    | refine eb_o rfl ?_
    | refine en_g ?_
    | refine eb_g ?_
    | refine ej_n ?_
    | refine ej_r ?_
    | refine ej_e ?_
    | refine ej_g ?_
    | refine rpost_ret ?_
    | (apply res1; exact rfl)
    | (apply res1n; exact rfl)
    | (apply res1b; exact rfl; exact rfl; (first | exact rfl | (simp; done)))
    | (apply res2; exact rfl; exact rfl)
    | (apply res2n; exact rfl; exact rfl)
    | (apply res2b; exact rfl; exact rfl; (first | exact rfl | (simp; done)); exact rfl)
    | exact CoL_nil
    | refine CoL_d rfl ?_
    | refine CoL_b rfl rfl rfl ?_
    | refine CoL_n rfl ?_
    | refine CoL_v rfl ?_
  all_goals try omega
  all_goals
    generalize kidsP _ L _ _ _ = Y
    obtain ⟨u2, o2, c2, r2⟩ := Y
    cases u2 <;> exact mpost_ret (Fits_mk (Le_cons rfl Le_nil) (Pre_cons rfl rfl (Pre_cons rfl rfl Pre_nil)) rfl rfl)
end
end Go.Proofs.Ytcjakkbanlgafaa
/- The layout statements: the walk of lay (nest). -/
namespace Go.Proofs.Ytcjakkbanlgafaa
open Go.Sx Go.RowKit Go.Lib
attribute [local irreducible] Ylds astep alex alexE alexD awp PCall FCall RCall MCall QCall athen ablock ajump rpost fpost mpost


section
variable {L : List Nd} {w m : Nat} (hD : Doc L) (ih : LayC L w m) {at_ : Nat} {n : Nd} (hn : L[at_]? = some n) (he : 0 ≤ endF L at_) (hm : L.length ≤ m + 1 + at_)
include hD ih hn he hm

set_option maxHeartbeats 4000000 in
theorem lay_nest (hk43 : n.kind = 43) (ind : Nat) (fl : Bool) (p : Pen) (hi : ind ≤ 40 * at_) (hp : Bd p at_) :
    MCall Try.prog 25 [.ptr 0 0, .d (nodes L), .d (i64 at_), .d (i64 ind), .d (bl fl)] [penOb p w, rowOb p] (.d (i64 (endF L at_))) [penOb (kidsP (fun t q => layN L w m t (ind + n.num.toNat) (fl) q) L ((at_ : Int) + 1) n.kids.toNat (p)) w, rowOb (kidsP (fun t q => layN L w m t (ind + n.num.toNat) (fl) q) L ((at_ : Int) + 1) n.kids.toNat (p))] := by
  obtain ⟨k1, k2, k3, k4⟩ := node_end hn he
  have hk := (List.getElem?_eq_some_iff.1 hn).1
  have hlen := hD.len
  have hbd := endF_bd L at_
  have ht := hD.text n (List.mem_of_getElem? hn)
  have hr := hD.right n (List.mem_of_getElem? hn)
  obtain ⟨u, out, c, r⟩ := p
  obtain ⟨hp1, hp2, hp3⟩ := hp
  simp only at hp1 hp2 hp3
  obtain ⟨n1, n2⟩ := right_num hr hk43
  have hkN := kids_ok hD ih at_ n hn he (by omega) (ind + n.num.toNat) fl ⟨u, out, c, r⟩ (by omega) (Bd.mono (j := at_) ⟨hp1, hp2, hp3⟩ (by omega))
  rw [show ((ind + n.num.toNat : Nat) : Int) = (ind : Int) + n.num by omega] at hkN
  refine mcall_of Try.func25 rfl Try.ntmps25 Try.results25 rfl rfl rfl ?_
  intro wb St0 X fx
  repeat' first
    | refine en_n ?_
    | refine awp_seq ?_
    | refine awp_region ?_
    | refine alex_nil ?_
    | refine w0 ?_
    | (apply Y_lssT; exact rfl; exact rfl; first
    | assumption
    | omega)
    | (apply Y_lssF; exact rfl; exact rfl; first
    | assumption
    | omega)
    | (apply Y_leqT; exact rfl; exact rfl; first
    | assumption
    | omega)
    | (apply Y_leqF; exact rfl; exact rfl; first
    | assumption
    | omega)
    | (apply Y_gtrT; exact rfl; exact rfl; first
    | assumption
    | omega)
    | (apply Y_gtrF; exact rfl; exact rfl; first
    | assumption
    | omega)
    | (apply Y_geqT; exact rfl; exact rfl; first
    | assumption
    | omega)
    | (apply Y_geqF; exact rfl; exact rfl; first
    | assumption
    | omega)
    | (apply Y_eqlT; exact rfl; exact rfl; first
    | assumption
    | omega)
    | (apply Y_eqlF; exact rfl; exact rfl; first
    | assumption
    | omega)
    | (apply Y_neqT; exact rfl; exact rfl; first
    | assumption
    | omega)
    | (apply Y_neqF; exact rfl; exact rfl; first
    | assumption
    | omega)
    | (refine aMClo [0, 1, 2, 3, 4, 5] [4, 5, 2, 3] rfl rfl hb_lay1 (hkN) rfl ?_ (by first
    | rfl
    | (cases u <;> rfl)) rfl (by decide) rfl rfl (by first
    | rfl
    | (cases u <;> rfl)) rfl rfl rfl ?_; (repeat (refine SArgs_cons rfl ?_)); exact SArgs_nil)
    | (apply aJ (hd := rfl); (first | exact Co_dd rfl | exact Co_bb rfl rfl rfl | exact Co_nn rfl); exact rfl; exact (by first | exact es_nodes | exact es_ints | exact es_nodess | exact es_by); assumption; omega; exact fun _ => rfl)
    | (apply aI (hd := rfl); (first | exact Co_dd rfl | exact Co_bb rfl rfl rfl | exact Co_nn rfl); exact rfl; exact (by first | exact es_nodes | exact es_ints | exact es_nodess | exact es_by); exact fun _ => rfl; rotate_left; intro v hv; rotate_right)
    | (apply aApp (hd := rfl) (hro := rfl); exact rfl; exact rfl; (first | exact Co_dd rfl | exact Co_bb rfl rfl rfl | exact Co_nn rfl); (first | exact rfl | (simp; done)); exact rfl; exact (by first | exact ety_nodes | exact ety_ints | exact ety_nodess | exact ety_by); exact (by first | exact es_nodes | exact es_ints | exact es_nodess | exact es_by); exact (by first | exact zl_node | exact zl_int | exact zl_nodes | exact zl_u8); exact (by first | exact by_nodes | exact by_ints | exact by_nodess | exact by_by); (first | exact sz_map (fun _ => rfl) | exact sz_lit rfl))
    | (apply aBox (hd := rfl) (hro := rfl); exact rfl; exact rfl)
    | (apply aAlloc (hd := rfl) (hro := rfl); exact (by first | exact zo_node | exact zo_int))
    | apply ay (hd := rfl)
    | (apply Y_move_d; exact rfl)
    | (apply Y_assign_d; exact rfl)
    | (apply Y_field_r; exact rfl; exact (by first | exact fo_0 | exact fo_1 | exact fo_2 | exact fo_3 | exact pf_0 | exact pf_1 | exact pf_2 | exact bf_0 | exact bf_1))
    | (apply Y_load_r1; exact rfl; exact (by first | exact tc_pp | exact tc_int | exact tc_nodes | exact tc_node | exact tc_ints | exact tc_kind | exact tc_i64 | exact tc_str | exact tc_bool | exact tc_ad | exact tc_by | exact tc_cx))
    | (apply Y_load_r; exact rfl; exact (by first | exact tc_pp | exact tc_int | exact tc_nodes | exact tc_node | exact tc_ints | exact tc_kind | exact tc_i64 | exact tc_str | exact tc_bool | exact tc_ad | exact tc_by | exact tc_cx); exact rfl)
    | (apply Y_len_m; exact rfl; exact (by first | exact et_nodes | exact et_ints | exact et_nodess | exact et_by))
    | (apply Y_len_d; exact rfl; exact (by first | exact et_nodes | exact et_ints | exact et_nodess | exact et_by))
    | (apply Y_lss; exact rfl; exact rfl)
    | (apply Y_leq; exact rfl; exact rfl)
    | (apply Y_gtr; exact rfl; exact rfl)
    | (apply Y_geq; exact rfl; exact rfl)
    | (apply Y_eql; exact rfl; exact rfl)
    | (apply Y_neq; exact rfl; exact rfl)
    | (apply Y_add; exact rfl; exact rfl)
    | (apply Y_sub; exact rfl; exact rfl)
    | (apply Y_mul; exact rfl; exact rfl)
    | (apply Y_not; exact rfl)
    | (apply Y_pick_t; exact rfl; exact rfl)
    | (apply Y_pick_f; exact rfl; exact rfl)
    | (apply Y_extract; exact rfl; exact rfl)
    | (apply Y_max; exact rfl; exact rfl)
    | (apply Y_move_nil; exact rfl)
    | (apply Y_assign_nil; exact rfl)
    | (apply Y_move_buf; exact rfl)
    | (apply Y_assign_buf; exact rfl)
    | (apply Y_len_buf; exact rfl; exact (by first | exact et_nodes | exact et_ints | exact et_nodess | exact et_by))
    | (apply Y_len_nil; exact rfl; exact (by first | exact et_nodes | exact et_ints | exact et_nodess | exact et_by))
    | (apply Y_move_ptr; exact rfl)
    | (apply Y_assign_ptr; exact rfl)
    | (apply Y_move_clo; exact rfl)
    | (apply Y_assign_clo; exact rfl)
    | (apply Y_field_p; exact rfl; exact (by first | exact fo_0 | exact fo_1 | exact fo_2 | exact fo_3 | exact pf_0 | exact pf_1 | exact pf_2 | exact bf_0 | exact bf_1))
    | (apply Y_load_p; exact rfl; exact (by first | exact tc_pp | exact tc_int | exact tc_nodes | exact tc_node | exact tc_ints | exact tc_kind | exact tc_i64 | exact tc_str | exact tc_bool | exact tc_ad | exact tc_by | exact tc_cx); exact rfl; exact rfl)
    | (apply Y_load_pa; exact rfl; exact (by first | exact tc_pp | exact tc_int | exact tc_nodes | exact tc_node | exact tc_ints | exact tc_kind | exact tc_i64 | exact tc_str | exact tc_bool | exact tc_ad | exact tc_by | exact tc_cx); exact rfl; exact rfl; exact rfl)
    | (apply Y_sl; (first | exact Co_dd rfl | exact Co_bb rfl rfl rfl | exact Co_nn rfl); exact (by first | exact es_nodes | exact es_ints | exact es_nodess | exact es_by); exact rfl; exact rfl; exact fun _ => rfl)
    | (apply Y_sl_l; (first | exact Co_dd rfl | exact Co_bb rfl rfl rfl | exact Co_nn rfl); exact (by first | exact es_nodes | exact es_ints | exact es_nodess | exact es_by); exact rfl; exact fun _ => rfl)
    | (apply Y_sl_h; (first | exact Co_dd rfl | exact Co_bb rfl rfl rfl | exact Co_nn rfl); exact (by first | exact es_nodes | exact es_ints | exact es_nodess | exact es_by); exact rfl; exact fun _ => rfl)
    | (apply Y_lit0; exact (by first | exact ety_nodes | exact ety_ints | exact ety_nodess | exact ety_by); exact (by first | exact es_nodes | exact es_ints | exact es_nodess | exact es_by); exact (by first | exact zs_node | exact zs_int | exact zs_nodes | exact zs_u8); exact rfl)
    | (apply Y_lit1; exact (by first | exact ety_nodes | exact ety_ints | exact ety_nodess | exact ety_by); exact (by first | exact es_nodes | exact es_ints | exact es_nodess | exact es_by); exact (by first | exact zs_node | exact zs_int | exact zs_nodes | exact zs_u8); exact rfl; exact rfl; (first | exact CoL_d rfl CoL_nil | exact CoL_b rfl rfl rfl CoL_nil | exact CoL_n rfl CoL_nil); exact rfl)
    | (apply Y_lit2; exact (by first | exact ety_nodes | exact ety_ints | exact ety_nodess | exact ety_by); exact (by first | exact es_nodes | exact es_ints | exact es_nodess | exact es_by); exact (by first | exact zs_node | exact zs_int | exact zs_nodes | exact zs_u8); exact rfl; exact rfl; (first | exact CoL_d rfl (CoL_d rfl CoL_nil) | exact CoL_b rfl rfl rfl (CoL_b rfl rfl rfl CoL_nil)); exact rfl)
    | (apply Y_lit3; exact (by first | exact ety_nodes | exact ety_ints | exact ety_nodess | exact ety_by); exact (by first | exact es_nodes | exact es_ints | exact es_nodess | exact es_by); exact (by first | exact zs_node | exact zs_int | exact zs_nodes | exact zs_u8); exact rfl; exact rfl; (exact CoL_d rfl (CoL_d rfl (CoL_d rfl CoL_nil))); exact rfl)
    | (apply Y_lit4; exact (by first | exact ety_nodes | exact ety_ints | exact ety_nodess | exact ety_by); exact (by first | exact es_nodes | exact es_ints | exact es_nodess | exact es_by); exact (by first | exact zs_node | exact zs_int | exact zs_nodes | exact zs_u8); exact rfl; exact rfl; (exact CoL_d rfl (CoL_d rfl (CoL_d rfl (CoL_d rfl CoL_nil)))); exact rfl)
    | (apply Y_mkf; exact rfl)
    | (apply w1; exact rfl; exact rfl)
    | (apply k1 (hd := rfl); exact rfl; exact rfl)
    | (apply k0 (hd := rfl); exact rfl; exact rfl)
    | (apply gD; exact rfl; exact rfl; (intro hb); rotate_left; (intro hb); rotate_right)
    | (apply gN; exact rfl; exact rfl; (intro hb); rotate_left; (intro hb); rotate_right)
    | (apply g1; exact rfl; exact rfl; (intro hb); rotate_left; (intro hb); rotate_right)
    | (refine w0' ?_)
    | (apply aStore; exact rfl; exact rfl; exact rfl; exact (by first | exact tc_pp | exact tc_int | exact tc_nodes | exact tc_node | exact tc_ints | exact tc_kind | exact tc_i64 | exact tc_str | exact tc_bool | exact tc_ad | exact tc_by | exact tc_cx); exact rfl; exact rfl; exact rfl; exact rfl)
    | (apply awp_condD; exact rfl; (intro hb); rotate_left; (intro hb); rotate_right)
    | (apply awp_condN; exact rfl; (intro hb); rotate_left; (intro hb); rotate_right)
    | (apply awp_condT; exact rfl)
    | (apply awp_condF; exact rfl)
    | (apply awp_cond; exact rfl; (intro hb); rotate_left; (intro hb); rotate_right)
    | refine awp_block ?_
    | refine awp_skip ?_
    | refine awp_ret ?_
    | refine awp_exit ?_
    | refine awp_label ?_
    | refine awp_goto ?_
    | refine awp_draw (by kernel_rfl) (by kernel_rfl) ?_
    | refine en_r ?_
    | refine en_e ?_
    | refine eb_n ?_
    | refine eb_r ?_
    | refine eb_e ?_
    | refine eb_o rfl ?_
    | refine en_g ?_
    | refine eb_g ?_
    | refine ej_n ?_
    | refine ej_r ?_
    | refine ej_e ?_
    | refine ej_g ?_
    | refine rpost_ret ?_
    | (apply res1; exact rfl)
    | (apply res1n; exact rfl)
    | (apply res1b; exact rfl; exact rfl; (first | exact rfl | (simp; done)))
    | (apply res2; exact rfl; exact rfl)
    | (apply res2n; exact rfl; exact rfl)
    | (apply res2b; exact rfl; exact rfl; (first | exact rfl | (simp; done)); exact rfl)
    | exact CoL_nil
    | refine CoL_d rfl ?_
    | refine CoL_b rfl rfl rfl ?_
    | refine CoL_n rfl ?_
    | refine CoL_v rfl ?_
  all_goals try omega
  all_goals
    generalize kidsP _ L _ _ _ = Y
    obtain ⟨u2, o2, c2, r2⟩ := Y
    cases u2 <;> exact mpost_ret (Fits_mk (Le_cons rfl Le_nil) (Pre_cons rfl rfl (Pre_cons rfl rfl Pre_nil)) rfl rfl)
end
end Go.Proofs.Ytcjakkbanlgafaa
