/- 'triglyphlaw14.EvalFuels' returns true, whatever its input: what ended ends the same with more fuel; what didn't has put out the beginning of what it puts out then; the tied card of its row. Conditions: the listed tables of the library lie in memory as start-up lays them (tied). -/
import Derived.Test.YtjcgiiedaccjpaaGreatDoorMAK
import Derived.Test.YtjcgiiedaccjpaaGreatDoorMBZ
import Derived.Test.YtjcgiiedaccjpaaGreatDoorCards
import Derived.Test.YtjcgiiedaccjpaaGreatDoorTie
import Derived.SevenTiedAt
namespace Go.Proofs.YtjcgiiedaccjpaaGreatDoor
open Go.ChangeShapes Go.WideShapes Go.ChangeAt Go.RowKit Go.Sx
set_option maxRecDepth 100000 in
theorem evalFuels_lifted (os : Os) (started : os.Started) (H : Type) (enc : TypeId × Value → H) :
    ReturnsInHanded {} Tryz.checked os 4 .any (fun w args => (Rows.evalFuelsSpec.pre enc Tryz.prog Tryz.f4 Rows.evalFuelsRow.domain false w args ∧ laidMetH Tryz.prog zHR w) ∧ sizedMet enc Tryz.prog Tryz.f4 (OpenSpec.ofChange Rows.evalFuelsSpec) false w args)
      (Rows.evalFuelsSpec.post enc Tryz.prog Tryz.f4 false true false false) := by
  refine zOB (C := Tryz.checked) (X := fun w _ => laidMetH Tryz.prog zHR w) (fun _ _ _ hh h => h.of_heap hh) Tryz.own started (by kernel_rfl) Tryz.func4
    (ChangeSpec.witness_shaped (enc := enc) (C := Tryz.checked) (os := os) (X := fun w _ => laidMetH Tryz.prog zHR w) false (World.laidAll Tryz.prog os zHR) #[.slice none 0 0, .slice none 0 0, .int .i64 0, .int .i64 0] 8 (World.laidAll_os _ _ _)
      (World.shaped_of_ZipB (by kernel_rfl) (by kernel_rfl)) (by kernel_rfl) (by kernel_rfl) (by kernel_rfl)
      (by rw [MakeChecks.laidMetH_plain _ _ _ (by kernel_rfl)]; exact laidMet_laidAll _ (by kernel_rfl) (by kernel_rfl))) ?_
  intro W base args ds gs before hval0 hW hL hsh
  have hval : ∀ (j : Nat) t v, Tryz.f4.params[j]? = some t → args[j]? = some v → Value.okWide Tryz.prog W .any base t v := hval0
  have hW' := hW
  obtain ⟨p, q, hA0, hV, rfl, hfz, hnd⟩ := hW
  have hA : DataW.TrodAll enc Tryz.prog W 0 (fun _ => true) true Tryz.f4.params.toList args.toList ds p := hA0
  rw [Tryz.params4] at hA hval
  obtain ⟨v0, v1, v2, v3, d0, d1, d2, d3, p0, p1, p2, p3, rfl, rfl, rfl, h0, h1, h2, h3⟩ := trodAll_four hA
  obtain ⟨rfl, rfl⟩ := trodVars_none hV
  obtain ⟨L0, r0⟩ := zP8 (hval 0 22 v0 rfl rfl) h0
  obtain ⟨L1, r1⟩ := zOv (hval 1 23 v1 rfl rfl) h1
  obtain ⟨b2, rfl, rfl, rfl, w2⟩ := open_int uint (hval 2 3 v2 rfl rfl) h2
  obtain ⟨b3, rfl, rfl, rfl, w3⟩ := open_int uint (hval 3 3 v3 rfl rfl) h3
  clear hA0 hval0
  simp only [List.append_nil] at hW'
  have hlt : ∀ x ∈ p0 ++ (p1 ++ ([] ++ [])), x.block < W.heap.size := fun x hx => by simpa using hW'.lt x (by simpa using hx)
  refine (zPy L0 L1 b2 b3 (big W) W [v0, v1, .int .i64 b2, .int .i64 b3] (fun _ _ h => h) (zTi hsh hL) ⟨r0, r1, .val _, .val _, trivial⟩).mono fun e W' ⟨v, St', he, hr, hbel, _⟩ => ?_
  obtain rfl := RepD.val_eq hr
  refine ⟨_, he, [d0, d1, .lit (.int .i64 b2), .lit (.int .i64 b3)], [], _, [], p0 ++ (p1 ++ ([] ++ [])), [], by simpa using hW', ?_, ?_, rfl, hbel.frame _, fun h => by cases h⟩
  · exact trodAll_mk1 (shut_bool zON true)
  · exact trodAll_mk4 (Below.trod Tryz.laidOut (by kernel_rfl) (of_decide_eq_true (by kernel_rfl)) h0 hbel fun x hx => hlt x (by simp [hx])) (Below.trod Tryz.laidOut (by kernel_rfl) (of_decide_eq_true (by kernel_rfl)) h1 hbel fun x hx => hlt x (by simp [hx])) (shut_int uint w2) (shut_int uint w3)
theorem evalFuels_row : Rows.EvalFuelsSaid :=
  OpenClaim.holds_of_wide 4 Tryz.f4 rfl rfl rfl rfl rfl rfl rfl ⟨rfl, rfl, rfl, rfl, rfl⟩ rfl rfl rfl rfl rfl (by kernel_rfl) Tryz.func4 (by kernel_rfl)
    (of_decide_eq_true (by kernel_rfl)) (by unfold Func.isWrapper; first | (rw [if_pos (by decide +kernel)]; kernel_rfl) | (rw [if_neg (by decide +kernel)]; exact ⟨rfl, rfl⟩))
    (fun os started H enc _ => evalFuels_lifted os started H enc)
theorem evalFuels_holds : Rows.EvalFuelsCardSaid :=
  Claim7.holds_tied_plain_at .later [] [.data, .data, .data, .data, .listed, .data, .pinned] true (true, "cf1b28aad157743a531971d7a251c3664c1d893c7b2b0ad752e56ec4736e8a2a") true evalFuels_row (fun _ h => by cases h) (by kernel_rfl) (fun _ h => by cases h) evalFuels_row_tie rfl ⟨rfl, rfl⟩ (by kernel_rfl) rfl
    (fun f fn hf hfn => by
      obtain rfl : f = 4 := Option.some.inj ((show Tryz.prog.funcNamed "triglyph/triglyphlaw14.EvalFuels" = some 4 by kernel_rfl).symm.trans hf) |>.symm
      obtain rfl : fn = Tryz.f4 := (Option.some.inj (Tryz.func4.symm.trans hfn)).symm
      exact ⟨by kernel_rfl, fun j t ht => by
        rw [Tryz.params4] at ht
        have hm : t ∈ [22, 23, 3, 3] := by simpa using Array.mem_of_getElem? ht
        have hall : ([22, 23, 3, 3].all fun u => !Tryz.prog.wantsStandIn u) = true := by kernel_rfl
        exact (show Tryz.prog.wantsStandIn t = false by simpa using List.all_eq_true.1 hall t hm)⟩)
    (by kernel_rfl)
end Go.Proofs.YtjcgiiedaccjpaaGreatDoor
