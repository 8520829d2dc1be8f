/- The engine: the steps, as they are met in a proof. -/
import Derived.Test.YtbegnjhfhnaagaaDoorSxD
namespace Go.Sx
section
variable {C : Ctx} {dr : Bool} {ops : Array Oper} {rest : List Oper} {K : Sl → List Ob → Prop} {σ : Sl} {η : List Ob} {s : SV} {d : Nat} {op : Op} {ty : TypeId} {pos : String} {after : Array Edge}

/-- operation o is carried out next -/
def astep (C : Ctx) (dr : Bool) (ops : Array Oper) (o : Oper) (rest : List Oper) (K : Sl → List Ob → Prop) (σ : Sl) (η : List Ob) : Prop :=
  match dr with
  | true => ∃ s, Ylds C.P η σ o s ∧ DstOk C.N o.dst ∧ alexD C η ops rest (fun σ => K σ η) (put σ o.dst s)
  | false => ∀ (Q : Exit → Act → World → Prop), (∀ σ' η' a w, K σ' η' → Abs C σ' η' a w → Q .normal a w) → ∀ a w, Abs C σ η a w → ∀ K' : Act → World → Prop, (∀ a w, wpList C.P ops Q rest a w → K' a w) → o.wp C.P a w K' Q

theorem alex_step {o : Oper} (hw : Wants ops σ o.guard true) (h : astep C dr ops o rest K σ η) : alex C dr ops (o :: rest) K σ η := by
  cases dr with
  | true => obtain ⟨s, h1, h2, h3⟩ := h; exact ⟨s, .inl ⟨hw, h1⟩, h2, h3⟩
  | false =>
    intro Q hQ a w hab
    refine wpList_step fun K' hK' => ?_
    obtain ⟨g, ha⟩ := hab
    rw [if_pos (hw.wanted fun t _ _ _ _ => ha.rep t)]
    exact h Q hQ a w ⟨g, ha⟩ K' hK'

theorem w0 (h : astep C dr ops ⟨some d, op, ty, pos, after, none⟩ rest K σ η) : alex C dr ops (⟨some d, op, ty, pos, after, none⟩ :: rest) K σ η :=
  alex_step (show Wants _ _ none true from rfl) h
theorem w0' (h : astep C dr ops ⟨none, op, ty, pos, after, none⟩ rest K σ η) : alex C dr ops (⟨none, op, ty, pos, after, none⟩ :: rest) K σ η :=
  alex_step (show Wants _ _ none true from rfl) h
theorem w1 {j : Nat} {want : Bool} {t : Nat} (h1 : (ops[j]?).bind (·.dst) = some t) (h2 : get σ t = .d (.val (.bool want))) (h : astep C dr ops ⟨some d, op, ty, pos, after, some (j, want)⟩ rest K σ η) :
    alex C dr ops (⟨some d, op, ty, pos, after, some (j, want)⟩ :: rest) K σ η :=
  alex_step (show Wants _ _ (some (j, want)) true from ⟨t, h1, by simpa using h2⟩) h
theorem k1 {j : Nat} {t : Nat} (h1 : (ops[j]?).bind (·.dst) = some t) (h2 : get σ t = .d (.val (.bool false))) (hd : Nat.blt d C.N = true) (h : alex C dr ops rest K ((d, .top) :: σ) η) :
    alex C dr ops (⟨some d, op, ty, pos, after, some (j, true)⟩ :: rest) K σ η :=
  alex_skipW (show Wants _ _ (some (j, true)) false from ⟨t, h1, by simpa using h2⟩) hd h
theorem k0 {j : Nat} {t : Nat} (h1 : (ops[j]?).bind (·.dst) = some t) (h2 : get σ t = .d (.val (.bool true))) (hd : Nat.blt d C.N = true) (h : alex C dr ops rest K ((d, .top) :: σ) η) :
    alex C dr ops (⟨some d, op, ty, pos, after, some (j, false)⟩ :: rest) K σ η :=
  alex_skipW (show Wants _ _ (some (j, false)) false from ⟨t, h1, by simpa using h2⟩) hd h
/-- a guard that is not decided yet -/
theorem g1 {j : Nat} {want : Bool} {t : Nat} {b : Bool} (_h1 : (ops[j]?).bind (·.dst) = some t) (h2 : get σ t = .d (.val (.bool b)))
    (ht : b = true → alex C dr ops (⟨some d, op, ty, pos, after, some (j, want)⟩ :: rest) K ((t, .d (.val (.bool true))) :: σ) η)
    (hf : b = false → alex C dr ops (⟨some d, op, ty, pos, after, some (j, want)⟩ :: rest) K ((t, .d (.val (.bool false))) :: σ) η) :
    alex C dr ops (⟨some d, op, ty, pos, after, some (j, want)⟩ :: rest) K σ η := alex_split t h2 ht hf

variable {gd : Option (Nat × Bool)} {t yt : TypeId} {x y z : Operand}
theorem ay (hd : Nat.blt d C.N = true) (hy : Ylds C.P η σ ⟨some d, op, ty, pos, after, gd⟩ s) (h : alex C dr ops rest K ((d, s) :: σ) η) : astep C dr ops ⟨some d, op, ty, pos, after, gd⟩ rest K σ η := by
  cases dr with
  | true => exact ⟨s, hy, hd, h⟩
  | false => exact fun Q hQ a w ⟨g, ha⟩ K' hK' => hy.wp (o := ⟨some d, op, ty, pos, after, gd⟩) hd (fun a w hab => hK' a w (h Q hQ a w hab)) ha

end

section
variable {K : Sl → List Ob → Prop} {Q : Exit → Sl → List Ob → Prop} {σ : Sl} {η : List Ob}
theorem en_n (h : K σ η) : athen K Q .normal σ η := h
theorem en_r (h : Q .ret σ η) : athen K Q .ret σ η := h
theorem en_e {i : Nat} (h : Q (.exit i) σ η) : athen K Q (.exit i) σ η := h
theorem en_g {i : Nat} (h : Q (.goto i) σ η) : athen K Q (.goto i) σ η := h
theorem eb_n {i : Nat} (h : Q .normal σ η) : ablock i Q .normal σ η := h
theorem eb_r {i : Nat} (h : Q .ret σ η) : ablock i Q .ret σ η := h
theorem eb_g {i j : Nat} (h : Q (.goto j) σ η) : ablock i Q (.goto j) σ η := h
theorem eb_e {i : Nat} (h : Q .normal σ η) : ablock i Q (.exit i) σ η := by simp only [ablock, if_true]; exact h
theorem eb_o {i j : Nat} (hj : Nat.beq j i = false) (h : Q (.exit j) σ η) : ablock i Q (.exit j) σ η := by
  have hne : j ≠ i := fun e => by subst e; simp at hj
  simp only [ablock, if_neg hne]; exact h
theorem ej_n {l : Nat} (h : Q .normal σ η) : ajump l K Q .normal σ η := h
theorem ej_r {l : Nat} (h : Q .ret σ η) : ajump l K Q .ret σ η := h
theorem ej_e {l i : Nat} (h : Q (.exit i) σ η) : ajump l K Q (.exit i) σ η := h
theorem ej_g {l : Nat} (h : K σ η) : ajump l K Q (.goto l) σ η := ⟨rfl, h⟩
end

section
variable {C : Ctx} {Q : Exit → Sl → List Ob → Prop} {σ : Sl} {η : List Ob} {x : Operand} {c d : Code}
theorem awp_condT (hx : oval σ x = .d (.val (.bool true))) (h : awp C c Q σ η) : awp C (.cond x c d) Q σ η := awp_cond hx (fun _ => h) (fun h => by cases h)
theorem awp_condF (hx : oval σ x = .d (.val (.bool false))) (h : awp C d Q σ η) : awp C (.cond x c d) Q σ η := awp_cond hx (fun h => by cases h) (fun _ => h)
theorem awp_condD {p : Prop} {ip : Decidable p} (hx : oval σ x = .d (.val (.bool (decide p)))) (h1 : p → awp C c Q σ η) (h2 : ¬ p → awp C d Q σ η) : awp C (.cond x c d) Q σ η :=
  awp_cond hx (fun h => h1 (of_decide_eq_true h)) (fun h => h2 (of_decide_eq_false h))
theorem awp_condN {p : Prop} {ip : Decidable p} (hx : oval σ x = .d (.val (.bool (!decide p)))) (h1 : ¬ p → awp C c Q σ η) (h2 : p → awp C d Q σ η) : awp C (.cond x c d) Q σ η :=
  awp_cond hx (fun h => h1 (by simpa using h)) (fun h => h2 (by simpa using h))
end

section
variable {C : Ctx} {dr : Bool} {ops : Array Oper} {rest : List Oper} {K : Sl → List Ob → Prop} {σ : Sl} {η : List Ob} {s : SV} {d : Nat} {op : Op} {ty : TypeId} {pos : String} {after : Array Edge} {j : Nat} {want : Bool} {t : Nat} {p : Prop}
theorem gD {ip : Decidable p} (_h1 : (ops[j]?).bind (·.dst) = some t) (h2 : get σ t = .d (.val (.bool (decide p))))
    (ht : p → alex C dr ops (⟨some d, op, ty, pos, after, some (j, want)⟩ :: rest) K ((t, .d (.val (.bool true))) :: σ) η)
    (hf : ¬ p → alex C dr ops (⟨some d, op, ty, pos, after, some (j, want)⟩ :: rest) K ((t, .d (.val (.bool false))) :: σ) η) :
    alex C dr ops (⟨some d, op, ty, pos, after, some (j, want)⟩ :: rest) K σ η := alex_split t h2 (fun h => ht (of_decide_eq_true h)) (fun h => hf (of_decide_eq_false h))
theorem gN {ip : Decidable p} (_h1 : (ops[j]?).bind (·.dst) = some t) (h2 : get σ t = .d (.val (.bool (!decide p))))
    (ht : ¬ p → alex C dr ops (⟨some d, op, ty, pos, after, some (j, want)⟩ :: rest) K ((t, .d (.val (.bool true))) :: σ) η)
    (hf : p → alex C dr ops (⟨some d, op, ty, pos, after, some (j, want)⟩ :: rest) K ((t, .d (.val (.bool false))) :: σ) η) :
    alex C dr ops (⟨some d, op, ty, pos, after, some (j, want)⟩ :: rest) K σ η := alex_split t h2 (fun h => ht (by simpa using h)) (fun h => hf (by simpa using h))
end

section
variable {P : Program} {η : List Ob} {σ : Sl} {dst : Option Nat} {ty : TypeId} {pos : String} {after : Array Edge} {gd : Option (Nat × Bool)} {x : Operand} {t : TypeId}
theorem Y_len_m {α : Type} {enc : α → D} {L : List α} (hx : oval σ x = .d (.slice (L.map enc))) (hu : (elemTy P t).isSome = true) : Ylds P η σ ⟨dst, .call ⟨.builtin .len, #[x], #[t]⟩, ty, pos, after, gd⟩ (.d (.val (.int .i64 (L.length : Int)))) := by
  have := Y_len_d (dst := dst) (ty := ty) (pos := pos) (after := after) (gd := gd) (η := η) hx hu
  rwa [List.length_map] at this
end

section
variable {η : List Ob} {σ : Sl}
theorem Le_nil : Le [] σ := fun _ => .inr rfl
theorem Le_cons {k : Nat} {s : SV} {r : Sl} (h : get σ k = s) (hr : Le r σ) : Le ((k, s) :: r) σ := fun t => by
  rw [get_cons]; split
  · rename_i e; subst e; exact .inl h.symm
  · exact hr t
theorem res1 {r : Nat} {d d' : D} (h : get σ r = .d d') (e : d' = d) : ResOk #[.tmp r] σ η d := by subst e; show Co η (get σ r) d'; rw [h]; rfl
theorem res1n {r : Nat} {d : D} (h : get σ r = .nil) (e : D.slice [] = d) : ResOk #[.tmp r] σ η d := by subst e; show Co η (get σ r) _; rw [h]; exact .inl rfl
theorem res1b {r : Nat} {d : D} {id n e sz : Nat} {xs : List D} (h : get σ r = .buf id n) (ho : η[id]? = some (.buf false e sz xs)) (hn : n = xs.length) (he : D.slice xs = d) : ResOk #[.tmp r] σ η d := by subst he; show Co η (get σ r) _; rw [h]; exact Co_buf ho hn
theorem res2 {r r2 : Nat} {d1 d2 d1' d2' : D} (h1 : get σ r = .d d1') (h2 : get σ r2 = .d d2') (e1 : d1' = d1) (e2 : d2' = d2) : ResOk #[.tmp r, .tmp r2] σ η (.tup [d1, d2]) := by
  subst e1; subst e2; show Co η (get σ r) _ ∧ Co η (get σ r2) _; rw [h1, h2]; exact ⟨rfl, rfl⟩
theorem res2n {r r2 : Nat} {d1 d2 d2' : D} (h1 : get σ r = .nil) (h2 : get σ r2 = .d d2') (e1 : D.slice [] = d1) (e2 : d2' = d2) : ResOk #[.tmp r, .tmp r2] σ η (.tup [d1, d2]) := by
  subst e1; subst e2; show Co η (get σ r) _ ∧ Co η (get σ r2) _; rw [h1, h2]; exact ⟨.inl rfl, rfl⟩
theorem res2b {r r2 : Nat} {d1 d2 d2' : D} {id n e sz : Nat} {xs : List D} (h1 : get σ r = .buf id n) (ho : η[id]? = some (.buf false e sz xs)) (hn : n = xs.length) (h2 : get σ r2 = .d d2') (e1 : D.slice xs = d1) (e2 : d2' = d2) : ResOk #[.tmp r, .tmp r2] σ η (.tup [d1, d2]) := by
  subst e1; subst e2; show Co η (get σ r) _ ∧ Co η (get σ r2) _; rw [h1, h2]; exact ⟨Co_buf ho hn, rfl⟩
end

end Go.Sx
