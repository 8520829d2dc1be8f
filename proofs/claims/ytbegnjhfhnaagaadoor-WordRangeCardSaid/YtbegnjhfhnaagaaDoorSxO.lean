/- The engine: a struct literal; a row let be when a slot is there. -/
import Derived.Test.YtbegnjhfhnaagaaDoorSxN
import Derived.Laws.Tables
namespace Go.Sx
open Go.RowKit

section
variable {C : Ctx} {σ : Sl} {η : List Ob}
theorem awp_freezeW {Q : Exit → Sl → List Ob → Prop} {c : Code} (k id : Nat) {e sz : Nat} {xs : List D} (_hk : (σ.any fun p => Nat.beq p.1 k) = true) (ho : η[id]? = some (.buf true e sz xs)) (hro : Nat.ble C.ro id = true) (h : awp C c Q σ (η.set id (.buf false e sz xs))) : awp C c Q σ η :=
  awp_freeze id ho hro h
end

section
variable {P : Program} {η : List Ob} {σ : Sl} {dst : Option Nat} {ty : TypeId} {pos : String} {after : Array Edge} {gd : Option (Nat × Bool)} {t : TypeId}
theorem Y_build {ps : List (Nat × Operand)} {vs : List (Nat × Value)} {cells : List Value} (hl : ps.length = vs.length) (hx : ∀ (j : Nat) (p : Nat × Operand) (q : Nat × Value), ps[j]? = some p → vs[j]? = some q → p.1 = q.1 ∧ oval σ p.2 = .d (.val q.2)) (hb : P.built t vs = some cells.toArray) (h1 : cells.all (·.oneCell') = true) :
    Ylds P η σ ⟨dst, .build t ps.toArray, ty, pos, after, gd⟩ (.d (.agg (cells.map .val))) := by
  refine Ylds.same fun g w a hi h => ⟨.agg cells.toArray, ?_, .agg cells _ (by simp) (fun u hu => List.all_eq_true.1 h1 u hu) fun j u d hu hd => ?_⟩
  · have e : (ps.map fun p => (p.1, a.eval p.2)) = vs := by
      refine List.ext_getElem? fun j => ?_
      rw [List.getElem?_map]
      rcases Nat.lt_or_ge j ps.length with hj | hj
      · have e1 : ps[j]? = some ps[j] := List.getElem?_eq_getElem hj
        have e2 : vs[j]? = some (vs[j]'(by omega)) := List.getElem?_eq_getElem (by omega)
        obtain ⟨h2, h3⟩ := hx j _ _ e1 e2
        have hm : ps[j].2 ∈ ps.map (·.2) := List.mem_map.2 ⟨ps[j], List.getElem_mem hj, rfl⟩
        have h4 := h ps[j].2 (by simpa [Op.operands] using hm)
        rw [h3] at h4
        have h5 := RepD.val_eq h4
        rw [e1, e2, Option.map_some, h2, h5]
      · rw [List.getElem?_eq_none hj, List.getElem?_eq_none (by omega)]; rfl
    have e' : (ps.toArray.map fun (x : Nat × Operand) => (x.1, a.eval x.2)) = vs.toArray := by rw [← e]; simp
    have := run_build (P := P) w t vs.toArray cells.toArray hb
    simp only [execOp]
    rw [e']
    simp only [Sem.run_bind, Sem.run_pure, this, Result.andThen_ok]
  · rw [List.getElem?_map, hu] at hd
    injection hd with hd; subst hd; exact .val _
theorem Y_move_v {x : Operand} (hx : oval σ x = .d (.val (.slice none 0 0))) : Ylds P η σ ⟨dst, .move x, ty, pos, after, gd⟩ .nil := by
  refine Ylds.same fun g w a hi h => ⟨.slice none 0 0, ?_, rfl⟩
  have h1 := h x (by simp [Op.operands]); rw [hx] at h1
  have h2 := RepD.val_eq h1
  simp [execOp, h2]
theorem Y_build0 {cells : List Value} (hb : P.built t [] = some cells.toArray) (h1 : cells.all (·.oneCell') = true) : Ylds P η σ ⟨dst, .build t #[], ty, pos, after, gd⟩ (.d (.agg (cells.map .val))) :=
  Y_build (ps := []) rfl (by simp) hb h1
theorem Y_build1 {i : Nat} {x : Operand} {v : Value} {cells : List Value} (hx : oval σ x = .d (.val v)) (hb : P.built t [(i, v)] = some cells.toArray) (h1 : cells.all (·.oneCell') = true) : Ylds P η σ ⟨dst, .build t #[(i, x)], ty, pos, after, gd⟩ (.d (.agg (cells.map .val))) :=
  Y_build (ps := [(i, x)]) rfl (fun j p q hp hq => by
    match j, hp, hq with
    | 0, hp, hq => injection hp with hp; injection hq with hq; subst hp; subst hq; exact ⟨rfl, hx⟩
    | j + 1, hp, hq => simp at hp) hb h1
theorem Y_build4 {i1 i2 i3 i4 : Nat} {x1 x2 x3 x4 : Operand} {v1 v2 v3 v4 : Value} {cells : List Value} (hx1 : oval σ x1 = .d (.val v1)) (hx2 : oval σ x2 = .d (.val v2)) (hx3 : oval σ x3 = .d (.val v3)) (hx4 : oval σ x4 = .d (.val v4))
    (hb : P.built t [(i1, v1), (i2, v2), (i3, v3), (i4, v4)] = some cells.toArray) (h1 : cells.all (·.oneCell') = true) : Ylds P η σ ⟨dst, .build t #[(i1, x1), (i2, x2), (i3, x3), (i4, x4)], ty, pos, after, gd⟩ (.d (.agg (cells.map .val))) :=
  Y_build (ps := [(i1, x1), (i2, x2), (i3, x3), (i4, x4)]) rfl (fun j p q hp hq => by
    match j, hp, hq with
    | 0, hp, hq => injection hp with hp; injection hq with hq; subst hp; subst hq; exact ⟨rfl, hx1⟩
    | 1, hp, hq => injection hp with hp; injection hq with hq; subst hp; subst hq; exact ⟨rfl, hx2⟩
    | 2, hp, hq => injection hp with hp; injection hq with hq; subst hp; subst hq; exact ⟨rfl, hx3⟩
    | 3, hp, hq => injection hp with hp; injection hq with hq; subst hp; subst hq; exact ⟨rfl, hx4⟩
    | j + 4, hp, hq => simp at hp) hb h1
end
/-- a step of the loop is to stop here -/
@[irreducible] def Stop (p : Prop) : Prop := p
theorem Stop.go {p : Prop} (h : p) : Stop p := by unfold Stop; exact h
theorem stopCopy {C : Ctx} {ops : Array Oper} {rest : List Oper} {K : Sl → List Ob → Prop} {σ : Sl} {η : List Ob} {d : Option Nat} {ty : TypeId} {pos : String} {after : Array Edge} {gd : Option (Nat × Bool)} {x y : Operand} {ts : Array TypeId}
    (h : Stop (astep C false ops ⟨d, .call ⟨.builtin .copy, #[x, y], ts⟩, ty, pos, after, gd⟩ rest K σ η)) : astep C false ops ⟨d, .call ⟨.builtin .copy, #[x, y], ts⟩, ty, pos, after, gd⟩ rest K σ η := by
  unfold Stop at h; exact h
theorem dead_mk {C : Ctx} {ops : Array Oper} {rest : List Oper} {K : Sl → List Ob → Prop} {σ : Sl} {η : List Ob} {d : Option Nat} {ty : TypeId} {pos : String} {after : Array Edge} {gd : Option (Nat × Bool)} {t : TypeId} {x : Operand}
    (h : False) : astep C false ops ⟨d, .makeInterface t x, ty, pos, after, gd⟩ rest K σ η := h.elim
end Go.Sx
