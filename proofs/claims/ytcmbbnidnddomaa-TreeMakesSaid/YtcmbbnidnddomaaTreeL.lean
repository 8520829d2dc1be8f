/- The tree statements: what an argument reads as. -/
import Derived.Test.YtcmbbnidnddomaaRows
import Derived.Test.YtcmbbnidnddomaaTreeK
import Derived.ProofKit
import Derived.Deep.Slices
import Derived.Deep.Fields
import Derived.ChangeSame
namespace Go.Proofs.Ytcmbbnidnddomaa
open Go.ChangeShapes Go.WideShapes Go.ChangeAt Go.RowKit Go.Deep Go.Sx

/-- every cell that there is -/
def big (W : World) : Stab := fun b _ => b < W.heap.size

theorem cell_lt {W : World} {a : Addr} {u : Value} (h : W.cell? a = some u) : a.block < W.heap.size := by
  unfold World.cell? at h
  rcases Nat.lt_or_ge a.block W.heap.size with h1 | h1
  · exact h1
  · rw [Array.getElem?_eq_none h1] at h; cases h

theorem exists_list {α : Type} {Q : Nat → α → Prop} : ∀ n : Nat, (∀ i, i < n → ∃ x, Q i x) → ∃ L : List α, L.length = n ∧ ∀ i x, L[i]? = some x → Q i x
  | 0, _ => ⟨[], rfl, fun i x h => by simp at h⟩
  | n + 1, h => by
    obtain ⟨L, hl, hq⟩ := exists_list n (fun i hi => h i (by omega))
    obtain ⟨y, hy⟩ := h n (by omega)
    refine ⟨L ++ [y], by simp [hl], fun i x hx => ?_⟩
    rcases Nat.lt_or_ge i n with h1 | h1
    · rw [List.getElem?_append_left (by omega)] at hx; exact hq i x hx
    · rw [List.getElem?_append_right (by omega), hl] at hx
      rcases Nat.lt_or_ge n i with h2 | h2
      · rw [List.getElem?_eq_none (by simp; omega)] at hx; cases hx
      · have : i = n := by omega
        subst this; simp at hx; subst hx; exact hy

theorem rep_slice {W : World} {a : Addr} {len cap sz : Nat} {xs : List D} (hl : len = xs.length) (hc : len ≤ cap) (hm : cap ≤ maxLen) (hsz : ∀ x ∈ xs, x.flat.length = sz) (hp : 0 < sz)
    (h : ∀ (i : Nat) (d : D), xs[i]? = some d → ∀ (o : Nat) (c : D), d.flat[o]? = some c → ∃ u, W.cell? (a.add (i * sz + o)) = some u ∧ u.oneCell' = true ∧ RepD (big W) W u c) :
    RepD (big W) W (.slice (some a) len cap) (.slice xs) := by
  have hfl := flats_len hsz
  obtain ⟨us, hul, huq⟩ := exists_list (Q := fun j u => W.cell? (a.add j) = some u ∧ u.oneCell' = true ∧ ∀ c, (flats xs)[j]? = some c → RepD (big W) W u c) (xs.length * sz) (fun j hj => by
    have hi : j / sz < xs.length := by rw [Nat.div_lt_iff_lt_mul hp]; exact hj
    have ho : j % sz < sz := Nat.mod_lt _ hp
    have hjj : j / sz * sz + j % sz = j := by rw [Nat.mul_comm]; exact Nat.div_add_mod j sz
    have hd : xs[j / sz]? = some xs[j / sz] := List.getElem?_eq_getElem hi
    have hdl := hsz _ (List.getElem_mem hi)
    have hc' : (xs[j / sz]).flat[j % sz]? = some ((xs[j / sz]).flat[j % sz]'(by omega)) := List.getElem?_eq_getElem (by omega)
    obtain ⟨u, h1, h2, h3⟩ := h _ _ hd _ _ hc'
    refine ⟨u, by rw [← hjj]; exact h1, h2, fun c hcc => ?_⟩
    have h4 := flats_at hsz hd ho
    rw [hjj, hcc, hc'] at h4
    injection h4 with h4; rw [h4]; exact h3)
  refine .slice (some a) len cap sz xs us hl hc hm hsz (by rw [hul, hfl]) (fun u hu => ?_) (fun _ => ⟨a, rfl, fun j u hu => ⟨?_, (huq j u hu).1⟩⟩) (fun j u d hu hd => (huq j u hu).2.2 d hd)
  · obtain ⟨j, hj, rfl⟩ := List.getElem_of_mem hu
    exact (huq j _ (List.getElem?_eq_getElem hj)).2.1
  · have h1 := cell_lt (huq j u hu).1
    have h2 : (a.add j).block = a.block := by unfold Addr.add; split <;> rfl
    rw [h2] at h1; exact h1

theorem rep_nil {W : World} : RepD (big W) W (.slice none 0 0) (.slice []) :=
  .slice none 0 0 0 [] [] rfl (Nat.le_refl _) (Nat.zero_le _) (by simp) (by simp [flats]) (by simp) (fun h => absurd h (by simp)) (fun j u d h => by simp at h)

theorem fs37 : Try.prog.fieldsOf 37 = #[⟨"Kind", 35, 0, false, "", "", 0⟩, ⟨"Text", 9, 1, false, "", "", 8⟩, ⟨"Num", 2, 2, false, "", "", 24⟩, ⟨"Kids", 3, 3, false, "", "", 32⟩] := by kernel_rfl
theorem us_nodes : Try.prog.underlying 22 = some (.slice 37) := by kernel_rfl
theorem us_node : Try.prog.underlying 37 = some (.struct #[⟨"Kind", 35, 0, false, "", "", 0⟩, ⟨"Text", 9, 1, false, "", "", 8⟩, ⟨"Num", 2, 2, false, "", "", 24⟩, ⟨"Kids", 3, 3, false, "", "", 32⟩]) := by kernel_rfl
theorem us_kind : Try.prog.underlying 35 = some (.int .i64) := by kernel_rfl
theorem us_i64 : Try.prog.underlying 2 = some (.int .i64) := by kernel_rfl
theorem us_str : Try.prog.underlying 9 = some .string := by kernel_rfl
theorem co_node : Try.prog.cellsOf 37 = 4 := by kernel_rfl
theorem one_node : oneCellFields Try.prog #[⟨"Kind", 35, 0, false, "", "", 0⟩, ⟨"Text", 9, 1, false, "", "", 8⟩, ⟨"Num", 2, 2, false, "", "", 24⟩, ⟨"Kids", 3, 3, false, "", "", 32⟩] = true := by kernel_rfl

section
variable {H : Type} {enc : TypeId × Value → H} {P : Program} {w : World} {base : Nat} {spare : Nat → Bool} {held : Bool}
theorem open_fields {t e : TypeId} {fs : Array Field} {fuel : Nat} {cs : List Value} {x : DataW H × List MemPlace} (ht : P.underlying t = some (.slice e)) (he : P.underlying e = some (.struct fs))
    (hone : oneCellFields P fs = true) (hC : P.cellsOf e = fs.size) (h : DataW.trod enc P w base spare held fuel t cs = some x) :
    cs = [.slice none 0 0] ∨
    ∃ (a : Addr) (len cap : Nat), cs = [.slice (some a) len cap] ∧ len ≤ cap ∧ cap ≤ maxLen ∧
      ∀ i, i < len → ∃ n : Nat, ∀ (j : Nat) (f : Field), fs[j]? = some f → ∃ (v : Value) (y : DataW H × List MemPlace), w.cell? (a.add (i * fs.size + j)) = some v ∧ DataW.trod enc P w base spare held n f.type [v] = some y := by
  rcases open_slice ht h with h0 | ⟨a, len, cap, m, n, D, Pl, hcs, hb, hl, hm, hmm, hx, hi⟩
  · exact .inl h0.1
  · refine .inr ⟨a, len, cap, hcs, hl, hm, fun i him => ?_⟩
    obtain ⟨cs', hc, ht'⟩ := hi i (by rw [hmm]; split <;> omega)
    rw [hC] at hc
    obtain ⟨ys, n', hn', hy, hlen, hyl, hf⟩ := DataW.trod_struct he ht'
    obtain ⟨_, hcl, hat⟩ := World.cells?_some hc
    refine ⟨n', fun j f hj => ?_⟩
    obtain ⟨ho, hk⟩ := hone_of hone j f hj
    have hjl : j < fs.size := (Array.getElem?_eq_some_iff.1 hj).1
    have hcell := hat j hjl
    have hv : cs'[j]? = some (cs'[j]'(by omega)) := List.getElem?_eq_getElem (by omega)
    have h1 := hf j f hj
    rw [ho, hk] at h1
    have hone' : (cs'.drop j).take 1 = [cs'[j]'(by omega)] := by
      rw [List.drop_eq_getElem_cons (by omega)]
      rfl
    rw [hone'] at h1
    have hys : ys[j]? = some (ys[j]'(by omega)) := List.getElem?_eq_getElem (by omega)
    refine ⟨_, _, ?_, h1.trans hys⟩
    rw [← Go.Deep.add_add, hcell, hv]
end

theorem nodes_of {H : Type} {enc : TypeId × Value → H} {W : World} {fuel : Nat} {cs : List Value} {x : DataW H × List MemPlace} (h : DataW.trod enc Try.prog W 0 (fun _ => true) true fuel 22 cs = some x) :
    ∃ v L, cs = [v] ∧ v.oneCell' = true ∧ RepD (big W) W v (nodes L) := by
  rcases open_fields us_nodes us_node one_node co_node h with h0 | ⟨a, len, cap, hcs, hl, hm, hi⟩
  · exact ⟨_, [], h0, rfl, rep_nil⟩
  · obtain ⟨L, hL, hq⟩ := exists_list (Q := fun i (n : Nd) => ∀ (o : Nat) (u : Value), n.vals[o]? = some u → W.cell? (a.add (i * 4 + o)) = some u) len (fun i hil => by
      obtain ⟨n, hf⟩ := hi i hil
      obtain ⟨u0, y0, c0, t0⟩ := hf 0 _ rfl
      obtain ⟨u1, y1, c1, t1⟩ := hf 1 _ rfl
      obtain ⟨u2, y2, c2, t2⟩ := hf 2 _ rfl
      obtain ⟨u3, y3, c3, t3⟩ := hf 3 _ rfl
      obtain ⟨k, e0, _, _⟩ := DataW.trod_int us_kind t0
      obtain ⟨s, e1, _, _⟩ := DataW.trod_string us_str t1
      obtain ⟨m, e2, _, _⟩ := DataW.trod_int us_i64 t2
      obtain ⟨z, e3, _, _⟩ := DataW.trod_int ut_int t3
      injection e0 with e0; injection e1 with e1; injection e2 with e2; injection e3 with e3
      subst e0; subst e1; subst e2; subst e3
      refine ⟨⟨k, s, m, z⟩, fun o u hu => ?_⟩
      match o, hu with
      | 0, hu => injection hu with hu; subst hu; exact c0
      | 1, hu => injection hu with hu; subst hu; exact c1
      | 2, hu => injection hu with hu; subst hu; exact c2
      | 3, hu => injection hu with hu; subst hu; exact c3
      | o + 4, hu => simp [Nd.vals] at hu)
    refine ⟨_, L, hcs, rfl, rep_slice (sz := 4) (by rw [List.length_map, hL]) hl hm (sz_map fun _ => rfl) (by decide) fun i d hd o c hc => ?_⟩
    rw [List.getElem?_map] at hd
    cases hn : L[i]? with
    | none => rw [hn] at hd; cases hd
    | some n =>
      rw [hn] at hd; injection hd with hd; subst hd
      have h1 := hq i n hn o
      match o, hc, h1 with
      | 0, hc, h1 => injection hc with hc; subst hc; exact ⟨_, h1 _ rfl, rfl, .val _⟩
      | 1, hc, h1 => injection hc with hc; subst hc; exact ⟨_, h1 _ rfl, rfl, .val _⟩
      | 2, hc, h1 => injection hc with hc; subst hc; exact ⟨_, h1 _ rfl, rfl, .val _⟩
      | 3, hc, h1 => injection hc with hc; subst hc; exact ⟨_, h1 _ rfl, rfl, .val _⟩
      | o + 4, hc, _ => exact absurd hc (by simp [Nd.av, D.flat])

theorem nodes_arg {H : Type} {enc : TypeId × Value → H} {W : World} {r : Reach} {b0 : Nat} {v : Value} {d : DataW H} {p : List MemPlace} (hv : Value.okWide Try.prog W r b0 22 v) (h : DataW.Trod enc Try.prog W 0 (fun _ => true) true 22 v d p) :
    ∃ L, RepD (big W) W v (nodes L) := by
  obtain ⟨a, len, cap, rfl⟩ := okWide_slice us_nodes hv
  obtain ⟨fuel, hf⟩ := h
  obtain ⟨v', L, hc, _, hr⟩ := nodes_of hf
  simp [Value.cells] at hc
  subst hc
  exact ⟨L, hr⟩
end Go.Proofs.Ytcmbbnidnddomaa
