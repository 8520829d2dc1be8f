/- The engine: divisions, shifts and conversions of integers; texts. -/
import Derived.Test.YtbegnjhfhnaagaaDoorSxO
namespace Go.Sx
open Go.RowKit

section
variable {P : Program} {η : List Ob} {σ : Sl} {dst : Option Nat} {ty : TypeId} {pos : String} {after : Array Edge} {gd : Option (Nat × Bool)} {t yt : TypeId} {x y : Operand}
theorem Y_quo {k : IntKind} {m n : Int} (hx : oval σ x = .d (.val (.int k m))) (hy : oval σ y = .d (.val (.int k n))) (hn : n ≠ 0) : Ylds P η σ ⟨dst, .binOp .quo t x y yt, ty, pos, after, gd⟩ (.d (.val (.int k (k.wrap (m.tdiv n))))) :=
  Y_bin hx hy fun w => by simp [eqGuard_quo, binOp_quo, Op.intDiv, hn]
theorem Y_rem {k : IntKind} {m n : Int} (hx : oval σ x = .d (.val (.int k m))) (hy : oval σ y = .d (.val (.int k n))) (hn : n ≠ 0) : Ylds P η σ ⟨dst, .binOp .rem t x y yt, ty, pos, after, gd⟩ (.d (.val (.int k (m.tmod n)))) :=
  Y_bin hx hy fun w => by simp [eqGuard_rem, binOp_rem, Op.intDiv, hn]
theorem Y_shl {k k' : IntKind} {m n : Int} (hx : oval σ x = .d (.val (.int k m))) (hy : oval σ y = .d (.val (.int k' n))) (hn : 0 ≤ n) : Ylds P η σ ⟨dst, .binOp .shl t x y yt, ty, pos, after, gd⟩ (.d (.val (.int k (k.wrap (m * 2 ^ min n.toNat k.bits))))) :=
  Y_bin hx hy fun w => by simp [eqGuard_shl, binOp, Op.shift, show ¬ n < 0 by omega]
theorem Y_shr {k k' : IntKind} {m n : Int} (hx : oval σ x = .d (.val (.int k m))) (hy : oval σ y = .d (.val (.int k' n))) (hn : 0 ≤ n) : Ylds P η σ ⟨dst, .binOp .shr t x y yt, ty, pos, after, gd⟩ (.d (.val (.int k (m.fdiv (2 ^ min n.toNat k.bits))))) :=
  Y_bin hx hy fun w => by simp [eqGuard_shr, binOp, Op.shift, show ¬ n < 0 by omega]
theorem Y_conv {k k' : IntKind} {src tdst : TypeId} {n : Int} (hx : oval σ x = .d (.val (.int k' n))) (hs : (P.underlying src).isSome = true) (hd : P.underlying tdst = some (.int k)) : Ylds P η σ ⟨dst, .convert src tdst x, ty, pos, after, gd⟩ (.d (.val (.int k (k.wrap n)))) := by
  obtain ⟨ds, hs⟩ := Option.isSome_iff_exists.1 hs
  refine Ylds.same fun g w a hi h => ⟨.int k (k.wrap n), ?_, .val _⟩
  have h1 := h x (by simp [Op.operands]); rw [hx] at h1
  simp only [execOp, convert, RepD.val_eq h1, Sem.run_bind, run_underlying hs, run_underlying hd, Result.andThen_ok]
  cases ds <;> simp [Conv.intToInt]
theorem Y_cat {a b : ByteArray} (hx : oval σ x = .d (.val (.string a))) (hy : oval σ y = .d (.val (.string b))) (hl : (a.size : Int) + b.size ≤ 9223372036854775807) : Ylds P η σ ⟨dst, .binOp .add t x y yt, ty, pos, after, gd⟩ (.d (.val (.string (a ++ b)))) :=
  Y_bin hx hy fun w => by
    have hm : ¬ ((a.size + b.size : Nat) : Int) > IntKind.i64.max := by
      have : IntKind.i64.max = 9223372036854775807 := by decide
      omega
    simp only [eqGuard_add, binOp, Op.stringOp, if_neg hm, Sem.run_bind, Sem.run_pure, Result.andThen_ok]
end
end Go.Sx
