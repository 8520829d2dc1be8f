/- 'triglyphlaw11.InferLets' returns true, whatever its input: a let of a value is of the type that its second part has, where the name is told with the first one's; the tied card of its row. Conditions: the listed tables of the library lie in memory as start-up lays them (tied). -/
import Derived.Test.YtblomnkamngnbaaGreatDoorMAP
import Derived.Test.YtblomnkamngnbaaGreatDoorMBV
import Derived.Test.YtblomnkamngnbaaGreatDoorCards
import Derived.Test.YtblomnkamngnbaaGreatDoorTie
import Derived.SevenTiedAt
namespace Go.Proofs.YtblomnkamngnbaaGreatDoor
open Go.ChangeShapes Go.WideShapes Go.ChangeAt Go.RowKit Go.Sx
set_option maxRecDepth 100000 in
theorem inferLets_lifted (os : Os) (started : os.Started) (H : Type) (enc : TypeId × Value → H) :
    ReturnsInHanded {} Tryz.checked os 4 .any (fun w args => (Rows.inferLetsSpec.pre enc Tryz.prog Tryz.f4 Rows.inferLetsRow.domain false w args ∧ laidMetH Tryz.prog zID w) ∧ sizedMet enc Tryz.prog Tryz.f4 (OpenSpec.ofChange Rows.inferLetsSpec) false w args)
      (Rows.inferLetsSpec.post enc Tryz.prog Tryz.f4 false true false false) := by
  refine zPV (C := Tryz.checked) (X := fun w _ => laidMetH Tryz.prog zID w) (fun _ _ _ hh h => h.of_heap hh) Tryz.own started (by kernel_rfl) Tryz.func4
    (ChangeSpec.witness_shaped (enc := enc) (C := Tryz.checked) (os := os) (X := fun w _ => laidMetH Tryz.prog zID w) false (World.laidAll Tryz.prog os zID) #[.slice none 0 0, .slice none 0 0, .slice none 0 0, .string ⟨#[]⟩] 8 (World.laidAll_os _ _ _)
      (World.shaped_of_ZipB (by kernel_rfl) (by kernel_rfl)) (by kernel_rfl) (by kernel_rfl) (by kernel_rfl)
      (by rw [MakeChecks.laidMetH_plain _ _ _ (by kernel_rfl)]; exact laidMet_laidAll _ (by kernel_rfl) (by kernel_rfl))) ?_
  intro W base args ds gs before hval0 hW hL hsh
  have hval : ∀ (j : Nat) t v, Tryz.f4.params[j]? = some t → args[j]? = some v → Value.okWide Tryz.prog W .any base t v := hval0
  have hW' := hW
  obtain ⟨p, q, hA0, hV, rfl, hfz, hnd⟩ := hW
  have hA : DataW.TrodAll enc Tryz.prog W 0 (fun _ => true) true Tryz.f4.params.toList args.toList ds p := hA0
  rw [Tryz.params4] at hA hval
  obtain ⟨v0, v1, v2, v3, d0, d1, d2, d3, p0, p1, p2, p3, rfl, rfl, rfl, h0, h1, h2, h3⟩ := trodAll_four hA
  obtain ⟨rfl, rfl⟩ := trodVars_none hV
  obtain ⟨L0, r0⟩ := zR9 (hval 0 22 v0 rfl rfl) h0
  obtain ⟨L1, r1⟩ := zLP (hval 1 23 v1 rfl rfl) h1
  obtain ⟨L2, r2⟩ := zLP (hval 2 23 v2 rfl rfl) h2
  obtain ⟨s3, rfl, rfl, rfl, w3⟩ := Go.ChangeMaps.open_string ustr (hval 3 9 v3 rfl rfl) h3
  obtain ⟨l3, rfl⟩ : ∃ l : List UInt8, s3 = ⟨l.toArray⟩ := ⟨s3.data.toList, by simp⟩
  clear hA0 hval0
  simp only [List.append_nil] at hW'
  have hlt : ∀ x ∈ p0 ++ (p1 ++ (p2 ++ [])), x.block < W.heap.size := fun x hx => by simpa using hW'.lt x (by simpa using hx)
  refine (zU2 L0 L1 L2 l3 (zVR w3) (big W) W [v0, v1, v2, .string ⟨l3.toArray⟩] (fun _ _ h => h) (zUa hsh hL) ⟨r0, r1, r2, .val _, trivial⟩).mono fun e W' ⟨v, St', he, hr, hbel, _⟩ => ?_
  obtain rfl := RepD.val_eq hr
  refine ⟨_, he, [d0, d1, d2, .lit (.string (⟨l3.toArray⟩ : ByteArray).data.toList)], [], _, [], p0 ++ (p1 ++ (p2 ++ [])), [], by simpa using hW', ?_, ?_, rfl, hbel.frame _, fun h => by cases h⟩
  · exact trodAll_mk1 (shut_bool zPd true)
  · exact trodAll_mk4 (Below.trod Tryz.laidOut (by kernel_rfl) (of_decide_eq_true (by kernel_rfl)) h0 hbel fun x hx => hlt x (by simp [hx])) (Below.trod Tryz.laidOut (by kernel_rfl) (of_decide_eq_true (by kernel_rfl)) h1 hbel fun x hx => hlt x (by simp [hx])) (Below.trod Tryz.laidOut (by kernel_rfl) (of_decide_eq_true (by kernel_rfl)) h2 hbel fun x hx => hlt x (by simp [hx])) (Go.ChangeMaps.shut_string ustr w3)
theorem inferLets_row : Rows.InferLetsSaid :=
  OpenClaim.holds_of_wide 4 Tryz.f4 rfl rfl rfl rfl rfl rfl rfl ⟨rfl, rfl, rfl, rfl, rfl⟩ rfl rfl rfl rfl rfl (by kernel_rfl) Tryz.func4 (by kernel_rfl)
    (of_decide_eq_true (by kernel_rfl)) (by unfold Func.isWrapper; first | (rw [if_pos (by decide +kernel)]; kernel_rfl) | (rw [if_neg (by decide +kernel)]; exact ⟨rfl, rfl⟩))
    (fun os started H enc _ => inferLets_lifted os started H enc)
theorem inferLets_holds : Rows.InferLetsCardSaid :=
  Claim7.holds_tied_plain_at .later [] [.data, .data, .data, .listed, .data] true (true, "f8fe079e3261c845ab46ea247c187df7a3311246b5fc0b1864e8ef86c361494e") false inferLets_row (fun _ h => by cases h) (by kernel_rfl) (fun _ h => by cases h) inferLets_row_tie rfl ⟨rfl, rfl⟩ (by kernel_rfl) rfl
    (fun f fn hf hfn => by
      obtain rfl : f = 4 := Option.some.inj ((show Tryz.prog.funcNamed "triglyph/triglyphlaw11.InferLets" = some 4 by kernel_rfl).symm.trans hf) |>.symm
      obtain rfl : fn = Tryz.f4 := (Option.some.inj (Tryz.func4.symm.trans hfn)).symm
      exact ⟨by kernel_rfl, fun j t ht => by
        rw [Tryz.params4] at ht
        have hm : t ∈ [22, 23, 23, 9] := by simpa using Array.mem_of_getElem? ht
        have hall : ([22, 23, 23, 9].all fun u => !Tryz.prog.wantsStandIn u) = true := by kernel_rfl
        exact (show Tryz.prog.wantsStandIn t = false by simpa using List.all_eq_true.1 hall t hm)⟩)
    (by kernel_rfl)
end Go.Proofs.YtblomnkamngnbaaGreatDoor
