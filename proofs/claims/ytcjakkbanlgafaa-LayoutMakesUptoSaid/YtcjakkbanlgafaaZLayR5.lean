/- 'triglyphlaw05.LayoutMakes' returns true, whatever its input: any documents that are made are the document's. Conditions: the arguments are together of bulk at most 1048576. -/
import Derived.Test.YtcjakkbanlgafaaZNodM
import Derived.Test.YtcjakkbanlgafaaZLayP6
import Derived.ChangeMaps5
import Derived.JoinedCond
namespace Go.Proofs.Ytcjakkbanlgafaa
open Go.ChangeShapes Go.WideShapes Go.ChangeAt Go.RowKit Go.Deep Go.Sx Go.ChangeMaps

theorem Try.own : ownKnob Try.prog.godebug = none := by kernel_rfl
theorem Try.laidOut : laidOutB Try.prog = true := by kernel_rfl
theorem ut_bool : Try.prog.underlying 4 = some .bool := by kernel_rfl

set_option maxRecDepth 100000 in
theorem layoutMakes_lifted (os : Os) (started : os.Started) (H : Type) (enc : TypeId × Value → H)
    (F : Stop.Interp) : ReturnsInHanded {} Try.checked os 4 .any ((Rows.OpenSpec.upto Rows.layoutMakesSpec).pre6 enc Try.prog Try.f4 Rows.layoutMakesUptoRow.domain false) (((Rows.OpenSpec.upto Rows.layoutMakesSpec).at F).post enc Try.prog Try.f4 false true false false) := by
  refine returnsInHanded_of_cond (C := Try.checked) (s := (Rows.OpenSpec.upto Rows.layoutMakesSpec)) (k := Rows.uptoSmall) rfl Try.own started (by kernel_rfl) Try.func4
    (OpenSpec.witness (enc := enc) (C := Try.checked) (s := (Rows.OpenSpec.upto Rows.layoutMakesSpec)) (k := Rows.uptoSmall) rfl false ⟨#[], #[.string ByteArray.empty, .int .i64 0, .slice none 0 0], []⟩ 8 (by kernel_rfl) (by kernel_rfl) (by kernel_rfl)
      (x := ([.lit (.string []), .lit (.int .i64 0), .nil], [], [])) (by kernel_rfl) rfl (by kernel_rfl)) ?_
  intro W base args ds gs before hval0 hW _ hk _
  have hval : ∀ (j : Nat) t v, Try.f4.params[j]? = some t → args[j]? = some v → Value.okWide Try.prog W .any base t v := hval0
  have hW' := hW
  obtain ⟨p, q, hA0, hV, rfl, hfz, hnd⟩ := hW
  have hA : DataW.TrodAll enc Try.prog W 0 (fun _ => true) true Try.f4.params.toList args.toList ds p := hA0
  rw [Try.params4] at hA hval
  obtain ⟨v0, v1, v2, d0, d1, d2, p0, p1, p2, rfl, rfl, rfl, h0, h1, h2⟩ := trodAll_three hA
  obtain ⟨rfl, rfl⟩ := trodVars_none hV
  obtain ⟨b0, rfl, rfl, rfl, wb0⟩ := open_string us_str (hval 0 9 v0 rfl rfl) h0
  obtain ⟨b1, rfl, rfl, rfl, wb1⟩ := open_int ut_int (hval 1 3 v1 rfl rfl) h1
  obtain ⟨L2, r2, _b2⟩ := nodess_arg (hval 2 33 v2 rfl rfl) h2
  clear hA0 hval0
  simp only [List.append_nil, List.nil_append] at hW'
  have hlt : ∀ x ∈ p2, x.block < W.heap.size := fun x hx => by simpa using hW'.lt x (by simpa using hx)
  have hB := of_decide_eq_true (show decide (Rows.uptoBulkAll _ ≤ 1048576) = true from hk)
  simp only [Rows.uptoBulkAll, List.append_nil] at hB
  refine (Makes_ok b0.data.toList b1 L2 (by omega) (big W) W [.string b0, .int .i64 b1, v2] (fun _ _ h => h) trivial ⟨.val _, .val _, r2, trivial⟩).mono fun e W' ⟨v, St', he, hr, hbel, _⟩ => ?_
  obtain rfl := RepD.val_eq hr
  refine ⟨_, he, [.lit (.string b0.data.toList), .lit (.int .i64 b1), d2], [], _, [], [] ++ ([] ++ p2), [], hW', ?_, ?_, rfl, hbel.frame _, fun h => by cases h⟩
  · exact trodAll_mk1 (shut_bool ut_bool true)
  · exact trodAll_mk3 (shut_string us_str wb0) (shut_int ut_int wb1) (Below.trod Try.laidOut (by kernel_rfl) (of_decide_eq_true (by kernel_rfl)) h2 hbel fun x hx => hlt x (by simp [hx]))

theorem layoutMakes_holds : Rows.LayoutMakesUptoSaid :=
  OpenClaim.holds_of_cond 4 Try.f4 rfl rfl rfl rfl rfl rfl rfl ⟨rfl, rfl, rfl, rfl, rfl⟩ rfl rfl rfl rfl rfl (by kernel_rfl) Try.func4 (by kernel_rfl)
    (of_decide_eq_true (by kernel_rfl)) (by unfold Func.isWrapper; rw [if_neg (by decide +kernel)]; exact ⟨rfl, rfl⟩)
    (fun os started H enc _ F => layoutMakes_lifted os started H enc F)
end Go.Proofs.Ytcjakkbanlgafaa
