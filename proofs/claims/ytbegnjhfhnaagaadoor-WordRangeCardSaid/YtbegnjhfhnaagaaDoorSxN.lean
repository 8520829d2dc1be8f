/- The engine: the steps in the forms in which a printed proof meets them. -/
import Derived.Test.YtbegnjhfhnaagaaDoorSxM
namespace Go.Sx
open Go.RowKit

def sized (ds : List D) (sz : Nat) : Bool := ds.all fun d => Nat.beq d.flat.length sz && okc d
theorem sized_spec {ds : List D} {sz : Nat} (h : sized ds sz = true) : (∀ d ∈ ds, d.flat.length = sz) ∧ ds.all okc = true := by
  refine ⟨fun d hd => ?_, List.all_eq_true.2 fun d hd => ?_⟩ <;> have := List.all_eq_true.1 h d hd <;> simp only [Bool.and_eq_true] at this
  · exact Nat.eq_of_beq_eq_true this.1
  · exact this.2

theorem sz_map {α : Type} {enc : α → D} {L : List α} {sz : Nat} (h : ∀ v, (enc v).flat.length = sz) : ∀ d ∈ L.map enc, d.flat.length = sz := fun d hd => by obtain ⟨v, _, rfl⟩ := List.mem_map.1 hd; exact h v
theorem sz_lit {ds : List D} {sz : Nat} (h : sized ds sz = true) : ∀ d ∈ ds, d.flat.length = sz := (sized_spec h).1

section
variable {P : Program} {η : List Ob} {σ : Sl} {dst : Option Nat} {ty : TypeId} {pos : String} {after : Array Edge} {gd : Option (Nat × Bool)} {t : TypeId} {x y z u : Operand} {sz e : Nat} {ds : List D}
theorem Y_lit0 (he : elemTy P t = some e) (hs : elemSize P t = some sz) (hz : (zeroOf P e).isSome = true) (hp : Nat.blt 0 sz = true) : Ylds P η σ ⟨dst, .buildSlice t 0 #[], ty, pos, after, gd⟩ (.d (.slice [])) :=
  Y_lit (xs := []) he hs hz hp (by simp) (by rfl) rfl CoL_nil (by simp) rfl
theorem Y_lit1 (he : elemTy P t = some e) (hs : elemSize P t = some sz) (hz : (zeroOf P e).isSome = true) (hp : Nat.blt 0 sz = true) (hb : Nat.ble (1 * sz) 16777216 = true) (hc : CoL η σ [x] ds) (hf : sized ds sz = true) : Ylds P η σ ⟨dst, .buildSlice t 1 #[(0, x)], ty, pos, after, gd⟩ (.d (.slice ds)) :=
  Y_lit (xs := [x]) he hs hz hp hb (by rfl) rfl hc (sized_spec hf).1 (sized_spec hf).2
theorem Y_lit2 (he : elemTy P t = some e) (hs : elemSize P t = some sz) (hz : (zeroOf P e).isSome = true) (hp : Nat.blt 0 sz = true) (hb : Nat.ble (2 * sz) 16777216 = true) (hc : CoL η σ [x, y] ds) (hf : sized ds sz = true) : Ylds P η σ ⟨dst, .buildSlice t 2 #[(0, x), (1, y)], ty, pos, after, gd⟩ (.d (.slice ds)) :=
  Y_lit (xs := [x, y]) he hs hz hp hb (by rfl) rfl hc (sized_spec hf).1 (sized_spec hf).2
theorem Y_lit3 (he : elemTy P t = some e) (hs : elemSize P t = some sz) (hz : (zeroOf P e).isSome = true) (hp : Nat.blt 0 sz = true) (hb : Nat.ble (3 * sz) 16777216 = true) (hc : CoL η σ [x, y, z] ds) (hf : sized ds sz = true) : Ylds P η σ ⟨dst, .buildSlice t 3 #[(0, x), (1, y), (2, z)], ty, pos, after, gd⟩ (.d (.slice ds)) :=
  Y_lit (xs := [x, y, z]) he hs hz hp hb (by rfl) rfl hc (sized_spec hf).1 (sized_spec hf).2
theorem Y_lit4 (he : elemTy P t = some e) (hs : elemSize P t = some sz) (hz : (zeroOf P e).isSome = true) (hp : Nat.blt 0 sz = true) (hb : Nat.ble (4 * sz) 16777216 = true) (hc : CoL η σ [x, y, z, u] ds) (hf : sized ds sz = true) : Ylds P η σ ⟨dst, .buildSlice t 4 #[(0, x), (1, y), (2, z), (3, u)], ty, pos, after, gd⟩ (.d (.slice ds)) :=
  Y_lit (xs := [x, y, z, u]) he hs hz hp hb (by rfl) rfl hc (sized_spec hf).1 (sized_spec hf).2

/-! ### a struct literal -/
def fillD (P : Program) (t : TypeId) : List (Nat × D) → List D → Option (List D)
  | [], cs => some cs
  | (i, d) :: r, cs => match fieldOff P t i with
    | some off => match Nat.ble (off + d.flat.length) cs.length && okc d with
      | true => fillD P t r (cs.take off ++ d.flat ++ cs.drop (off + d.flat.length))
      | false => none
    | none => none
end

section
variable {C : Ctx} {ops : Array Oper} {rest : List Oper} {K : Sl → List Ob → Prop} {σ : Sl} {η : List Ob} {d : Nat} {ty : TypeId} {pos : String} {after : Array Edge} {gd : Option (Nat × Bool)} {t : TypeId} {x y : Operand} {sz e : Nat} {ds : List D}
theorem aLit0 (he : elemTy C.P t = some e) (hs : elemSize C.P t = some sz) (hz : (zeroOf C.P e).isSome = true) (hp : Nat.blt 0 sz = true) (hd : Nat.blt d C.N = true) (hro : Nat.ble C.ro η.length = true)
    (h : alex C false ops rest K ((d, .buf η.length 0) :: σ) (η ++ [.buf false e sz []])) : astep C false ops ⟨some d, .buildSlice t 0 #[], ty, pos, after, gd⟩ rest K σ η :=
  aLit (xs := []) (ds := []) he hs hz hp (by simp) rfl CoL_nil (by simp) rfl hd hro (by rfl) h
theorem aLit1 (he : elemTy C.P t = some e) (hs : elemSize C.P t = some sz) (hz : (zeroOf C.P e).isSome = true) (hp : Nat.blt 0 sz = true) (hb : Nat.ble (1 * sz) 16777216 = true) (hd : Nat.blt d C.N = true) (hro : Nat.ble C.ro η.length = true) (hc : CoL η σ [x] ds) (hf : sized ds sz = true)
    (h : alex C false ops rest K ((d, .buf η.length ds.length) :: σ) (η ++ [.buf false e sz ds])) : astep C false ops ⟨some d, .buildSlice t 1 #[(0, x)], ty, pos, after, gd⟩ rest K σ η :=
  aLit (xs := [x]) he hs hz hp hb rfl hc (sized_spec hf).1 (sized_spec hf).2 hd hro (by rfl) h
theorem aLit2 (he : elemTy C.P t = some e) (hs : elemSize C.P t = some sz) (hz : (zeroOf C.P e).isSome = true) (hp : Nat.blt 0 sz = true) (hb : Nat.ble (2 * sz) 16777216 = true) (hd : Nat.blt d C.N = true) (hro : Nat.ble C.ro η.length = true) (hc : CoL η σ [x, y] ds) (hf : sized ds sz = true)
    (h : alex C false ops rest K ((d, .buf η.length ds.length) :: σ) (η ++ [.buf false e sz ds])) : astep C false ops ⟨some d, .buildSlice t 2 #[(0, x), (1, y)], ty, pos, after, gd⟩ rest K σ η :=
  aLit (xs := [x, y]) he hs hz hp hb rfl hc (sized_spec hf).1 (sized_spec hf).2 hd hro (by rfl) h
end
end Go.Sx
