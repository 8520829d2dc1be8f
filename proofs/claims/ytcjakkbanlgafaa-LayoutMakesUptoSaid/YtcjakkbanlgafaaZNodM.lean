/- Nodes: what rows of nodes read as, and how much that is. -/
import Derived.Test.YtcjakkbanlgafaaME
import Derived.Lib.SmallJoins
namespace Go.Proofs.Ytcjakkbanlgafaa
open Go.ChangeShapes Go.WideShapes Go.ChangeAt Go.RowKit Go.Deep Go.Sx

theorem us_nodess : Try.prog.underlying 33 = some (.slice 22) := by kernel_rfl
theorem co_nodes : Try.prog.cellsOf 22 = 1 := by kernel_rfl

theorem bulk_one {H : Type} (d : DataW H) : 1 ≤ Rows.uptoBulk d := by
  cases d with
  | lit l => cases l <;> simp [Rows.uptoBulk]
  | _ => simp [Rows.uptoBulk]
theorem bulk_len {H : Type} : ∀ l : List (DataW H), l.length ≤ Rows.uptoBulkAll l
  | [] => by simp [Rows.uptoBulkAll]
  | x :: r => by
    have h1 := bulk_one x
    have h2 := bulk_len r
    simp only [Rows.uptoBulkAll, List.length_cons]; omega
theorem bulk_mem {H : Type} {d : DataW H} : ∀ {l : List (DataW H)}, d ∈ l → Rows.uptoBulk d ≤ Rows.uptoBulkAll l
  | x :: r, h => by
    simp only [Rows.uptoBulkAll]
    rcases List.mem_cons.1 h with rfl | h
    · omega
    · have := bulk_mem h; omega
theorem flat_bulk {H : Type} : ∀ (KK : List (List Nd)) (Ds : List (DataW H)), KK.length = Ds.length → (∀ (i : Nat) (L : List Nd) (d : DataW H), KK[i]? = some L → Ds[i]? = some d → L.length ≤ Rows.uptoBulk d) → KK.flatten.length ≤ Rows.uptoBulkAll Ds
  | [], [], _, _ => by simp
  | L :: KK, d :: Ds, hl, h => by
    have h1 := h 0 L d rfl rfl
    have h2 := flat_bulk KK Ds (by simpa using hl) (fun i L' d' h1 h2 => h (i + 1) L' d' (by simpa using h1) (by simpa using h2))
    simp only [List.flatten_cons, List.length_append, Rows.uptoBulkAll]; omega
  | [], _ :: _, hl, _ => by simp at hl
  | _ :: _, [], hl, _ => by simp at hl
theorem rep_len {St : Stab} {w : World} {a : Option Addr} {len cap : Nat} {xs : List D} (h : RepD St w (.slice a len cap) (.slice xs)) : len = xs.length := by
  cases h; assumption
theorem nodes_bulk {H : Type} {enc : TypeId × Value → H} {W : World} {fuel : Nat} {v : Value} {x : DataW H × List MemPlace} {L : List Nd} (h : DataW.trod enc Try.prog W 0 (fun _ => true) true fuel 22 [v] = some x) (hr : RepD (big W) W v (nodes L)) : L.length ≤ Rows.uptoBulk x.1 := by
  rcases open_slice us_nodes h with ⟨h0, _⟩ | ⟨a, len, cap, m, n, D', Pl, hcs, hb, hl, hm, hmm, hx, hi⟩
  · injection h0 with h0; subst h0
    have := rep_len hr
    rw [List.length_map] at this; omega
  · injection hcs with hcs; subst hcs
    have := rep_len hr
    rw [List.length_map] at this
    rw [hx]
    have h2 := bulk_len ((List.range len).map D')
    simp only [List.length_map, List.length_range] at h2
    simp only [Rows.uptoBulk]; omega

theorem nodess_arg {H : Type} {enc : TypeId × Value → H} {W : World} {r : Reach} {b0 : Nat} {v : Value} {d : DataW H} {p : List MemPlace} (hv : Value.okWide Try.prog W r b0 33 v) (h : DataW.Trod enc Try.prog W 0 (fun _ => true) true 33 v d p) :
    ∃ KK, RepD (big W) W v (nodess KK) ∧ KK.flatten.length ≤ Rows.uptoBulk d := by
  obtain ⟨a0, len0, cap0, rfl⟩ := okWide_slice us_nodess hv
  obtain ⟨fuel, hf⟩ := h
  rcases open_slice us_nodess hf with ⟨h0, hx0⟩ | ⟨a, len, cap, m, n, D', Pl, hcs, hb, hl, hm, hmm, hx, hi⟩
  · simp [Value.cells] at h0
    obtain ⟨rfl, rfl, rfl⟩ := h0
    exact ⟨[], rep_nil, by simp⟩
  · simp [Value.cells] at hcs
    obtain ⟨rfl, rfl, rfl⟩ := hcs
    obtain ⟨KK, hK, hq⟩ := exists_list (Q := fun i (L : List Nd) => (∃ u, W.cell? (a.add (i * 1 + 0)) = some u ∧ u.oneCell' = true ∧ RepD (big W) W u (nodes L)) ∧ L.length ≤ Rows.uptoBulk (D' i)) len0 (fun i hil => by
      obtain ⟨cs', hc, ht⟩ := hi i (by rw [hmm]; split <;> omega)
      rw [co_nodes] at hc
      obtain ⟨u, L, rfl, h1, h2⟩ := nodes_of ht
      obtain ⟨_, _, hat⟩ := World.cells?_some hc
      have h3 := hat 0 (by omega)
      rw [Go.Deep.add_add] at h3
      exact ⟨L, ⟨u, h3, h1, h2⟩, nodes_bulk ht h2⟩)
    refine ⟨KK, rep_slice (sz := 1) (by rw [List.length_map, hK]) hl hm (sz_map fun _ => rfl) (by decide) fun i d hd o c hc => ?_, ?_⟩
    · rw [List.getElem?_map] at hd
      cases hn : KK[i]? with
      | none => rw [hn] at hd; cases hd
      | some L =>
        rw [hn] at hd; injection hd with hd; subst hd
        match o, hc with
        | 0, hc => injection hc with hc; subst hc; exact (hq i L hn).1
        | o + 1, hc => exact absurd hc (by simp [nodes, D.flat])
    · have hd : d = DataW.slice ((List.range len0).map D') ((List.range (m - len0)).map fun j => D' (len0 + j)) := congrArg Prod.fst hx
      rw [hd]
      have := flat_bulk KK ((List.range len0).map D') (by simp [hK]) (fun i L d' h1 h2 => by
        rw [List.getElem?_map] at h2
        cases hr : (List.range len0)[i]? with
        | none => simp [hr] at h2
        | some j =>
          obtain ⟨q1, q2⟩ := List.getElem?_eq_some_iff.1 hr
          simp at q2; subst q2
          simp [hr] at h2; subst h2
          exact (hq i L h1).2)
      simp only [Rows.uptoBulk]; omega
end Go.Proofs.Ytcjakkbanlgafaa
