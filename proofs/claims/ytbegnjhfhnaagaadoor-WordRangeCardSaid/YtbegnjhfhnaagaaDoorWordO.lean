/- The word statements: what a row's condition gives: the tables in memory; what an argument reads as; the wrap. -/
import Derived.Test.YtbegnjhfhnaagaaDoorRows
import Derived.Test.YtbegnjhfhnaagaaDoorWordF
import Derived.ProofKit
import Derived.Deep.Slices
import Derived.ChangeSame
import Derived.OpenShut
import Derived.LaidMore
import Derived.Lay
import Derived.Stop.Joined
import Derived.Stop.LaidErr
import Derived.Shelf.Vars
import Derived.Lib.LaidTab
namespace Go.Proofs.YtbegnjhfhnaagaaDoor
open Go.ChangeShapes Go.WideShapes Go.ChangeAt Go.RowKit Go.Deep Go.Sx

theorem Tryd.own : ownKnob Tryd.prog.godebug = none := by kernel_rfl
theorem Tryd.laidOut : laidOutB Tryd.prog = true := by kernel_rfl

section
variable {H : Type} {enc : TypeId × Value → H}
/-- the wrap: the listed variables and the world's shape are handed on -/
theorem wrap_laid {a : Assume} {C : Checked} {os : Os} {f : FuncId} {fn : Func} {s : ChangeSpec} {conds : List PathCond} {apart fresh handsOn again : Bool} {X : World → Array Value → Prop}
    (hX : ∀ (w w' : World) (args : Array Value), w.heap = w'.heap → X w args → X w' args)
    (own : ownKnob C.prog.godebug = none) (started : os.Started) (noInit : C.prog.inits.idxOf? f = none) (hfn : C.prog.funcs[f]? = some fn)
    (witness : ∃ (w : World) (tape : Tape) (i : Input), w.os = os ∧ (w.forCall tape i).Shaped C.prog ∧ i.vars = [] ∧ Input.okWide C.prog (w.forCall tape i) .any w.heap.size f i ∧
      ((s.pre enc C.prog fn conds apart (w.forCall tape i).memory i.args ∧ X (w.forCall tape i).memory i.args) ∧ sizedMet enc C.prog fn (OpenSpec.ofChange s) apart (w.forCall tape i).memory i.args) ∧ a.holds C.prog (lone (Frame.enter C.prog f i.args .normal) [] (w.forCall tape i)))
    (contract : ∀ (W : World) (base : Nat) (args : Array Value) (ds gs : List (DataW H)) (before : List MemPlace),
      (∀ (j : Nat) t v, fn.params[j]? = some t → args[j]? = some v → Value.okWide C.prog W .any base t v) →
      DataW.Whole enc C.prog fn.params.toList s.vars apart W args.toList ds gs before → X W args → W.ShapedOpen C.prog →
      Calls C.prog f args W fun e W' => ∃ v, e = .returned v ∧ s.post enc C.prog fn apart fresh handsOn again W args v W') :
    ReturnsInHanded a C os f .any (fun w args => (s.pre enc C.prog fn conds apart w args ∧ X w args) ∧ sizedMet enc C.prog fn (OpenSpec.ofChange s) apart w args) (s.post enc C.prog fn apart fresh handsOn again) := by
  refine returnsInHanded_of_calls own started noInit witness ?_
  intro w tape i _ hsh _ hok hpre _
  obtain ⟨_, _, _, fn', hfn', _, _, _, _, hval⟩ := hok
  have e : fn' = fn := Option.some.inj (hfn'.symm.trans hfn)
  subst e
  obtain ⟨⟨⟨ds, gs, before, hw, _⟩, hx⟩, _⟩ := hpre
  have hw' := DataW.Whole.of_heap (w' := w.forCall tape i) (by rfl) hw
  refine (contract (w.forCall tape i) w.heap.size i.args ds gs before hval hw' (hX _ _ _ (by rfl) hx) hsh).mono fun e W' ⟨v, he, hp⟩ => ?_
  subst he
  exact ChangeSpec.post_blind hp
end

/-- every cell that there is, or may be -/
def big (W : World) : Stab := fun b _ => b < W.heap.size

theorem var_block {P : Program} {W : World} {n : String} {g : Nat} {cs : Array Value} (hg : P.globalNamed n = some g) (hv : W.var? P n = some cs) : ∃ e t, W.heap[g]? = some (.cells cs e t) := by
  simp only [World.var?, hg, Option.bind_some] at hv
  split at hv
  · rename_i h; injection hv with hv; subst hv; exact ⟨_, _, h⟩
  · cases hv

def theLaid : List (String × DataW Unit) := Rows.wordSumsRow.laid

theorem glob_of {W : World} (hsh : W.ShapedOpen Tryd.prog) (hL : laidMetH Tryd.prog theLaid W) : Glob (big W) W := by
  rw [MakeChecks.laidMetH_plain _ _ _ (by kernel_rfl)] at hL
  have h2 := laidMet.tail hL
  have h3 := laidMet.tail h2
  have e3 : (Rows.laid_internal_strconv_uint64pow10 : DataW Unit) = Lib.tabData .u64 Lib.pow10Tab := by kernel_rfl
  rw [e3] at h3
  have ht := Lib.tabIs_of_head (g := 3) (t := 79) (e := 39) (n := 20) (by kernel_rfl) (by kernel_rfl) (by kernel_rfl) (by kernel_rfl) (by kernel_rfl) (by kernel_rfl) h3
  obtain ⟨ps, ⟨g, t, cs, fuel, p, q, hg, _, hv, _, _, _⟩, _⟩ := h2
  obtain rfl : g = 5 := Option.some.inj (hg.symm.trans (by kernel_rfl))
  obtain ⟨e5, t5, h5⟩ := var_block hg hv
  have hsz : 5 < W.heap.size := (Array.getElem?_eq_some_iff.1 h5).1
  obtain ⟨m, hm⟩ := cell_of_shapedOpen_int (P := Tryd.prog) (g := 0) (t := 3) (zero := #[.int .i64 0]) hsh (of_decide_eq_true (by kernel_rfl)) (by kernel_rfl) rfl (by kernel_rfl) (by kernel_rfl) uint
  obtain ⟨cs0, hh, hs, _⟩ := hsh.1 0 #[.int .i64 0] 3 (of_decide_eq_true (by kernel_rfl)) (by kernel_rfl)
  have hc : cs0 = #[.int .i64 m] := by
    obtain ⟨l⟩ := cs0
    match l, hs with
    | [c], _ =>
      simp [World.cell?, hh] at hm
      rw [hm]
  subst hc
  exact ⟨fun k hk o => Nat.lt_of_lt_of_le hk hsz, ⟨m, _, _, hh⟩, var_block (by kernel_rfl) ht⟩

theorem cell_lt {W : World} {a : Addr} {u : Value} (h : W.cell? a = some u) : a.block < W.heap.size := by
  unfold World.cell? at h
  rcases Nat.lt_or_ge a.block W.heap.size with h1 | h1
  · exact h1
  · rw [Array.getElem?_eq_none h1] at h; cases h

theorem ui64s : Tryd.prog.underlying 35 = some (.slice 2) := by kernel_rfl
theorem co_i64 : Tryd.prog.cellsOf 2 = 1 := by kernel_rfl

theorem ints_of {H : Type} {enc : TypeId × Value → H} {W : World} {r : Reach} {b0 : Nat} {v : Value} {d : DataW H} {p : List MemPlace} (hv : Value.okWide Tryd.prog W r b0 35 v) (h : DataW.Trod enc Tryd.prog W 0 (fun _ => true) true 35 v d p) :
    ∃ L, RepD (big W) W v (ints L) := by
  obtain ⟨a, len, cap, rfl⟩ := okWide_slice ui64s hv
  obtain ⟨fuel, hf⟩ := h
  rcases open_slice1 ui64s co_i64 hf with h0 | ⟨a', len', cap', m, n, V, DD, Pl, hcs, _, hl, hm, hmm, hx0, hi⟩
  · simp [Value.cells] at h0
    obtain ⟨⟨rfl, rfl, rfl⟩, _⟩ := h0
    exact ⟨[], .slice none 0 0 0 [] [] rfl (Nat.le_refl _) (Nat.zero_le _) (by simp) rfl (by simp) (by simp) (by simp)⟩
  · simp [Value.cells] at hcs
    obtain ⟨rfl, rfl, rfl⟩ := hcs
    have hlm : len ≤ m := by rw [hmm]; split <;> omega
    have hz : ∀ i, i < len → ∃ z : Int, W.cell? (a'.add i) = some (.int .i64 z) := fun i hil => by
      obtain ⟨h1, h2⟩ := hi i (by omega)
      obtain ⟨z, e1, _, _⟩ := DataW.trod_int ui64 h2
      injection e1 with e1
      exact ⟨z, by rw [h1, e1]⟩
    obtain ⟨L, hLl, hq⟩ : ∃ L : List Int, L.length = len ∧ ∀ i z, L[i]? = some z → W.cell? (a'.add i) = some (.int .i64 z) := by
      clear hi hmm hlm hf hv hl hx0
      induction len with
      | zero => exact ⟨[], rfl, fun i z h => by simp at h⟩
      | succ k ih =>
        obtain ⟨L, h1, h2⟩ := ih (fun i hi => hz i (by omega))
        obtain ⟨z, hk⟩ := hz k (by omega)
        refine ⟨L ++ [z], by simp [h1], fun i y hy => ?_⟩
        rcases Nat.lt_or_ge i k with h3 | h3
        · rw [List.getElem?_append_left (by omega)] at hy; exact h2 i y hy
        · rw [List.getElem?_append_right (by omega), h1] at hy
          rcases Nat.lt_or_ge k i with h4 | h4
          · rw [List.getElem?_eq_none (by simp; omega)] at hy; cases hy
          · have : i = k := by omega
            subst this; simp at hy; subst hy; exact hk
    have hfl : flats (L.map i64) = L.map i64 := by
      clear hq hLl
      induction L with
      | nil => rfl
      | cons n L ih => simp only [List.map_cons, flats, List.flatMap_cons, D.flat] at ih ⊢; rw [ih]; rfl
    refine ⟨L, .slice (some a') len cap 1 (L.map i64) (L.map (Value.int .i64)) (by rw [List.length_map, hLl]) hl hm (sz_map fun _ => rfl) (by rw [hfl, List.length_map, List.length_map]) (fun u hu => by obtain ⟨z, _, rfl⟩ := List.mem_map.1 hu; rfl) (fun _ => ⟨a', rfl, fun j u hu => ?_⟩) fun j u d hu hd => ?_⟩
    · rw [List.getElem?_map] at hu
      cases hz : L[j]? with
      | none => simp [hz] at hu
      | some z =>
        simp [hz] at hu; subst hu
        have h1 := hq j z hz
        have h2 := cell_lt h1
        have h3 : (a'.add j).block = a'.block := by unfold Addr.add; split <;> rfl
        rw [h3] at h2
        exact ⟨h2, h1⟩
    · rw [hfl] at hd
      rw [List.getElem?_map] at hu hd
      cases hz : L[j]? with
      | none => simp [hz] at hu
      | some z => simp [hz] at hu hd; subst hu; subst hd; exact .val _
end Go.Proofs.YtbegnjhfhnaagaaDoor
