/- 'triglyphlaw02.TreeMakes' returns true, whatever its input: any node with any kids is the document's; of trees it is a tree, whose kids are these. Conditions: none. -/
import Derived.Test.YtcmbbnidnddomaaTreeL
import Derived.Test.YtcmbbnidnddomaaTreeU
import Derived.Lib.SmallJoins
namespace Go.Proofs.Ytcmbbnidnddomaa
open Go.ChangeShapes Go.WideShapes Go.ChangeAt Go.RowKit Go.Deep Go.Joins Go.Sx

theorem Try.own : ownKnob Try.prog.godebug = none := by kernel_rfl
theorem Try.laidOut : laidOutB Try.prog = true := by kernel_rfl
theorem us_nodess : Try.prog.underlying 38 = some (.slice 22) := by kernel_rfl
theorem co_nodes : Try.prog.cellsOf 22 = 1 := by kernel_rfl

theorem node_arg {H : Type} {enc : TypeId × Value → H} {W : World} {r : Reach} {b0 : Nat} {v : Value} {d : DataW H} {p : List MemPlace} (hv : Value.okWide Try.prog W r b0 37 v) (h : DataW.Trod enc Try.prog W 0 (fun _ => true) true 37 v d p) :
    ∃ x : Nd, RepD (big W) W v x.av := by
  obtain ⟨u0, u1, u2, u3, y0, y1, y2, y3, n, rfl, _, _, t0, t1, t2, t3⟩ := open_agg4 us_node one_node co_node hv h
  obtain ⟨k, e0, _, _⟩ := DataW.trod_int us_kind t0
  obtain ⟨s, e1, _, _⟩ := DataW.trod_string us_str t1
  obtain ⟨m, e2, _, _⟩ := DataW.trod_int us_i64 t2
  obtain ⟨z, e3, _, _⟩ := DataW.trod_int ut_int t3
  injection e0 with e0; injection e1 with e1; injection e2 with e2; injection e3 with e3
  subst e0; subst e1; subst e2; subst e3
  refine ⟨⟨k, s, m, z⟩, .agg [.int .i64 k, .string s, .int .i64 m, .int .i64 z] _ rfl (by simp [Value.oneCell']) fun j u d hu hd => ?_⟩
  match j, hu, hd with
  | 0, hu, hd => injection hu with hu; injection hd with hd; subst hu; subst hd; exact .val _
  | 1, hu, hd => injection hu with hu; injection hd with hd; subst hu; subst hd; exact .val _
  | 2, hu, hd => injection hu with hu; injection hd with hd; subst hu; subst hd; exact .val _
  | 3, hu, hd => injection hu with hu; injection hd with hd; subst hu; subst hd; exact .val _
  | j + 4, hu, _ => simp at hu

theorem nodess_arg {H : Type} {enc : TypeId × Value → H} {W : World} {r : Reach} {b0 : Nat} {v : Value} {d : DataW H} {p : List MemPlace} (hv : Value.okWide Try.prog W r b0 38 v) (h : DataW.Trod enc Try.prog W 0 (fun _ => true) true 38 v d p) :
    ∃ KK, RepD (big W) W v (nodess KK) := by
  obtain ⟨a0, len0, cap0, rfl⟩ := okWide_slice us_nodess hv
  obtain ⟨fuel, hf⟩ := h
  rcases open_slice us_nodess hf with ⟨h0, _⟩ | ⟨a, len, cap, m, n, D', Pl, hcs, hb, hl, hm, hmm, _, hi⟩
  · simp [Value.cells] at h0
    obtain ⟨rfl, rfl, rfl⟩ := h0
    exact ⟨[], rep_nil⟩
  · simp [Value.cells] at hcs
    obtain ⟨rfl, rfl, rfl⟩ := hcs
    obtain ⟨KK, hK, hq⟩ := exists_list (Q := fun i (L : List Nd) => ∃ u, W.cell? (a.add (i * 1 + 0)) = some u ∧ u.oneCell' = true ∧ RepD (big W) W u (nodes L)) len0 (fun i hil => by
      obtain ⟨cs', hc, ht⟩ := hi i (by rw [hmm]; split <;> omega)
      rw [co_nodes] at hc
      obtain ⟨u, L, rfl, h1, h2⟩ := nodes_of ht
      obtain ⟨_, _, hat⟩ := World.cells?_some hc
      have h3 := hat 0 (by omega)
      rw [Go.Deep.add_add] at h3
      exact ⟨L, u, h3, h1, h2⟩)
    refine ⟨KK, rep_slice (sz := 1) (by rw [List.length_map, hK]) hl hm (sz_map fun _ => rfl) (by decide) fun i d hd o c hc => ?_⟩
    rw [List.getElem?_map] at hd
    cases hn : KK[i]? with
    | none => rw [hn] at hd; cases hd
    | some L =>
      rw [hn] at hd; injection hd with hd; subst hd
      match o, hc with
      | 0, hc => injection hc with hc; subst hc; exact hq i L hn
      | o + 1, hc => exact absurd hc (by simp [nodes, D.flat])

set_option maxRecDepth 100000 in
theorem treeMakes_lifted (os : Os) (started : os.Started) (H : Type) (enc : TypeId × Value → H) :
    ReturnsInHanded {} Try.checked os 4 .any (Rows.treeMakesSpec.pre6 enc Try.prog Try.f4 Rows.treeMakesRow.domain false) (Rows.treeMakesSpec.post enc Try.prog Try.f4 false true false false) := by
  refine returnsInHanded_of_change (C := Try.checked) Try.own started (by kernel_rfl) Try.func4
    (ChangeSpec.witness6 (enc := enc) (C := Try.checked) false ⟨#[], #[.agg #[.int .i64 0, .string ByteArray.empty, .int .i64 0, .int .i64 0], .slice none 0 0], []⟩ 8 (by kernel_rfl) (by kernel_rfl) (by kernel_rfl) (by kernel_rfl)) ?_
  intro W base args ds gs before hval0 hW hcnd _
  have hval : ∀ (j : Nat) t v, Try.f4.params[j]? = some t → args[j]? = some v → Value.okWide Try.prog W .any base t v := hval0
  have hW' := hW
  obtain ⟨p, q, hA0, hV, rfl, hfz, hnd⟩ := hW
  have hA : DataW.TrodAll enc Try.prog W 0 (fun _ => true) true Try.f4.params.toList args.toList ds p := hA0
  rw [Try.params4] at hA hval
  obtain ⟨v0, v1, d0, d1, p0, p1, rfl, rfl, rfl, h0, h1⟩ := trodAll_two hA
  obtain ⟨rfl, rfl⟩ := trodVars_none hV
  obtain ⟨x, hx⟩ := node_arg (hval 0 37 v0 rfl rfl) h0
  obtain ⟨KK, hKK⟩ := nodess_arg (hval 1 38 v1 rfl rfl) h1
  clear hA0 hval0
  simp only [List.append_nil] at hW'
  have hlt : ∀ x ∈ p0 ++ p1, x.block < W.heap.size := fun x hx => by simpa using hW'.lt x (by simpa using hx)
  refine (Makes_ok x KK (big W) W [v0, v1] (fun _ _ h => h) ⟨hx, hKK, trivial⟩).mono fun e W' ⟨v, St', he, hr, hbel, _⟩ => ?_
  obtain rfl := RepD.val_eq hr
  refine ⟨_, he, [d0, d1], [], _, [], p0 ++ p1, [], by simpa using hW', ?_, ?_, rfl, hbel.frame _, fun h => by cases h⟩
  · exact trodAll_mk1 (shut_bool ut_bool true)
  · exact trodAll_mk2 (Below.trod Try.laidOut (by kernel_rfl) (of_decide_eq_true (by kernel_rfl)) h0 hbel fun x hx => hlt x (by simp [hx])) (Below.trod Try.laidOut (by kernel_rfl) (of_decide_eq_true (by kernel_rfl)) h1 hbel fun x hx => hlt x (by simp [hx]))

theorem treeMakes_holds : Rows.TreeMakesSaid :=
  OpenClaim.holds_of_wide 4 Try.f4 rfl rfl rfl rfl rfl rfl rfl ⟨rfl, rfl, rfl, rfl, rfl⟩ rfl rfl rfl rfl rfl (by kernel_rfl) Try.func4 (by kernel_rfl)
    (of_decide_eq_true (by kernel_rfl)) (by unfold Func.isWrapper; rw [if_neg (by decide +kernel)]; exact ⟨rfl, rfl⟩)
    (fun os started H enc _ => treeMakes_lifted os started H enc)

end Go.Proofs.Ytcmbbnidnddomaa
