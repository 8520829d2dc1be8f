/- The engine: comparisons whose answer is known: no way is split. -/
import Derived.Test.YtbegnjhfhnaagaaDoorSxQ
namespace Go.Sx
section
variable {P : Program} {η : List Ob} {σ : Sl} {dst : Option Nat} {ty : TypeId} {pos : String} {after : Array Edge} {gd : Option (Nat × Bool)} {t yt : TypeId} {x y : Operand} {k : IntKind} {m n : Int}
theorem Y_as {o : Oper} {b c : Bool} (h : Ylds P η σ o (.d (.val (.bool b)))) (e : b = c) : Ylds P η σ o (.d (.val (.bool c))) := by subst e; exact h
theorem Y_lssT (hx : oval σ x = .d (.val (.int k m))) (hy : oval σ y = .d (.val (.int k n))) (h : m < n) : Ylds P η σ ⟨dst, .binOp .lss t x y yt, ty, pos, after, gd⟩ (.d (.val (.bool true))) := Y_as (Y_lss hx hy) (decide_eq_true h)
theorem Y_lssF (hx : oval σ x = .d (.val (.int k m))) (hy : oval σ y = .d (.val (.int k n))) (h : ¬ m < n) : Ylds P η σ ⟨dst, .binOp .lss t x y yt, ty, pos, after, gd⟩ (.d (.val (.bool false))) := Y_as (Y_lss hx hy) (decide_eq_false h)
theorem Y_leqT (hx : oval σ x = .d (.val (.int k m))) (hy : oval σ y = .d (.val (.int k n))) (h : m ≤ n) : Ylds P η σ ⟨dst, .binOp .leq t x y yt, ty, pos, after, gd⟩ (.d (.val (.bool true))) := Y_as (Y_leq hx hy) (decide_eq_true h)
theorem Y_leqF (hx : oval σ x = .d (.val (.int k m))) (hy : oval σ y = .d (.val (.int k n))) (h : ¬ m ≤ n) : Ylds P η σ ⟨dst, .binOp .leq t x y yt, ty, pos, after, gd⟩ (.d (.val (.bool false))) := Y_as (Y_leq hx hy) (decide_eq_false h)
theorem Y_gtrT (hx : oval σ x = .d (.val (.int k m))) (hy : oval σ y = .d (.val (.int k n))) (h : m > n) : Ylds P η σ ⟨dst, .binOp .gtr t x y yt, ty, pos, after, gd⟩ (.d (.val (.bool true))) := Y_as (Y_gtr hx hy) (decide_eq_true h)
theorem Y_gtrF (hx : oval σ x = .d (.val (.int k m))) (hy : oval σ y = .d (.val (.int k n))) (h : ¬ m > n) : Ylds P η σ ⟨dst, .binOp .gtr t x y yt, ty, pos, after, gd⟩ (.d (.val (.bool false))) := Y_as (Y_gtr hx hy) (decide_eq_false h)
theorem Y_geqT (hx : oval σ x = .d (.val (.int k m))) (hy : oval σ y = .d (.val (.int k n))) (h : m ≥ n) : Ylds P η σ ⟨dst, .binOp .geq t x y yt, ty, pos, after, gd⟩ (.d (.val (.bool true))) := Y_as (Y_geq hx hy) (decide_eq_true h)
theorem Y_geqF (hx : oval σ x = .d (.val (.int k m))) (hy : oval σ y = .d (.val (.int k n))) (h : ¬ m ≥ n) : Ylds P η σ ⟨dst, .binOp .geq t x y yt, ty, pos, after, gd⟩ (.d (.val (.bool false))) := Y_as (Y_geq hx hy) (decide_eq_false h)
theorem Y_eqlT (hx : oval σ x = .d (.val (.int k m))) (hy : oval σ y = .d (.val (.int k n))) (h : m = n) : Ylds P η σ ⟨dst, .binOp .eql t x y yt, ty, pos, after, gd⟩ (.d (.val (.bool true))) := Y_as (Y_eql hx hy) (decide_eq_true h)
theorem Y_eqlF (hx : oval σ x = .d (.val (.int k m))) (hy : oval σ y = .d (.val (.int k n))) (h : ¬ m = n) : Ylds P η σ ⟨dst, .binOp .eql t x y yt, ty, pos, after, gd⟩ (.d (.val (.bool false))) := Y_as (Y_eql hx hy) (decide_eq_false h)
theorem Y_neqT (hx : oval σ x = .d (.val (.int k m))) (hy : oval σ y = .d (.val (.int k n))) (h : m ≠ n) : Ylds P η σ ⟨dst, .binOp .neq t x y yt, ty, pos, after, gd⟩ (.d (.val (.bool true))) := Y_as (Y_neq hx hy) (decide_eq_true h)
theorem Y_neqF (hx : oval σ x = .d (.val (.int k m))) (hy : oval σ y = .d (.val (.int k n))) (h : ¬ m ≠ n) : Ylds P η σ ⟨dst, .binOp .neq t x y yt, ty, pos, after, gd⟩ (.d (.val (.bool false))) := Y_as (Y_neq hx hy) (decide_eq_false h)
theorem Y_eqbT {a b : Bool} (hx : oval σ x = .d (.val (.bool a))) (hy : oval σ y = .d (.val (.bool b))) (hu : P.underlying t = some .bool) (h : a = b) : Ylds P η σ ⟨dst, .binOp .eql t x y yt, ty, pos, after, gd⟩ (.d (.val (.bool true))) := Y_as (Y_eqlb hx hy hu) (by rw [h]; exact beq_self_eq_true _)
theorem Y_strT {a b : List UInt8} (hx : oval σ x = .d (str a)) (hy : oval σ y = .d (str b)) (h : a = b) : Ylds P η σ ⟨dst, .binOp .eql t x y yt, ty, pos, after, gd⟩ (.d (.val (.bool true))) := Y_as (Y_eqs hx hy) (decide_eq_true h)
end

/-! ### a guard that hangs on what was skipped -/
section
variable {C : Ctx} {ops : Array Oper} {rest : List Oper} {K : Sl → List Ob → Prop} {σ : Sl} {η : List Ob} {d : Nat} {op : Op} {ty : TypeId} {pos : String} {after : Array Edge} {j t : Nat} {want : Bool}
theorem alex_unwanted {gd : Option (Nat × Bool)} (hw : ∀ g a w, AbsG C g σ η a w → Region.wanted (⟨some d, op, ty, pos, after, gd⟩ : Oper) (yielded ops a.tmps) = false) (hd : Nat.blt d C.N = true) (h : alex C false ops rest K ((d, .d (.val undef)) :: σ) η) :
    alex C false ops (⟨some d, op, ty, pos, after, gd⟩ :: rest) K σ η := by
  intro Q hQ a w ⟨g, ha⟩
  refine wpList_step fun K' hK' => ?_
  rw [if_neg (by rw [hw g a w ha]; simp)]
  exact hK' _ _ (h Q hQ _ w ⟨g, ha.put (d := some d) hd (.val undef)⟩)
theorem kU (h1 : (ops[j]?).bind (·.dst) = some t) (h2 : get σ t = .d (.val undef)) (hd : Nat.blt d C.N = true) (h : alex C false ops rest K ((d, .d (.val undef)) :: σ) η) :
    alex C false ops (⟨some d, op, ty, pos, after, some (j, want)⟩ :: rest) K σ η := by
  refine alex_unwanted (fun g a w ha => ?_) hd h
  have hv := ha.rep t
  rw [h2] at hv
  have hv := RepD.val_eq hv
  unfold Region.wanted
  have : yielded ops a.tmps j = none := by
    simp only [yielded, h1, Option.bind_some]
    rcases Nat.lt_or_ge t a.tmps.size with hl | hl
    · rw [Array.getD_eq_getD_getElem?, Array.getElem?_eq_getElem hl] at hv
      rw [Array.getElem?_eq_getElem hl]
      simp only [Option.getD_some] at hv
      rw [hv]; rfl
    · rw [Array.getElem?_eq_none hl]
  simp only [this]; rfl
theorem k1u (h1 : (ops[j]?).bind (·.dst) = some t) (h2 : get σ t = .d (.val (.bool false))) (hd : Nat.blt d C.N = true) (h : alex C false ops rest K ((d, .d (.val undef)) :: σ) η) :
    alex C false ops (⟨some d, op, ty, pos, after, some (j, true)⟩ :: rest) K σ η :=
  alex_unwanted (fun g a w ha => (show Wants ops σ (some (j, true)) false from ⟨t, h1, by simpa using h2⟩).wanted (o := ⟨some d, op, ty, pos, after, some (j, true)⟩) (fun t _ _ _ _ => ha.rep t)) hd h
theorem k0u (h1 : (ops[j]?).bind (·.dst) = some t) (h2 : get σ t = .d (.val (.bool true))) (hd : Nat.blt d C.N = true) (h : alex C false ops rest K ((d, .d (.val undef)) :: σ) η) :
    alex C false ops (⟨some d, op, ty, pos, after, some (j, false)⟩ :: rest) K σ η :=
  alex_unwanted (fun g a w ha => (show Wants ops σ (some (j, false)) false from ⟨t, h1, by simpa using h2⟩).wanted (o := ⟨some d, op, ty, pos, after, some (j, false)⟩) (fun t _ _ _ _ => ha.rep t)) hd h
end
section
variable {C : Ctx} {ops : Array Oper} {rest : List Oper} {K : Sl → List Ob → Prop} {σ : Sl} {η : List Ob} {d : Nat} {ty : TypeId} {pos : String} {after : Array Edge} {gd : Option (Nat × Bool)} {t : TypeId} {x y z u : Operand} {sz e : Nat} {ds : List D}
theorem aLit4 (he : elemTy C.P t = some e) (hs : elemSize C.P t = some sz) (hz : (zeroOf C.P e).isSome = true) (hp : Nat.blt 0 sz = true) (hb : Nat.ble (4 * sz) 16777216 = true) (hd : Nat.blt d C.N = true) (hro : Nat.ble C.ro η.length = true) (hc : CoL η σ [x, y, z, u] ds) (hf : sized ds sz = true)
    (h : alex C false ops rest K ((d, .buf η.length ds.length) :: σ) (η ++ [.buf false e sz ds])) : astep C false ops ⟨some d, .buildSlice t 4 #[(0, x), (1, y), (2, z), (3, u)], ty, pos, after, gd⟩ rest K σ η :=
  aLit (xs := [x, y, z, u]) he hs hz hp hb rfl hc (sized_spec hf).1 (sized_spec hf).2 hd hro (by rfl) h
end
end Go.Sx
