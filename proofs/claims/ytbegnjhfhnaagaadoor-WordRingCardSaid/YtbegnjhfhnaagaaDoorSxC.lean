/- The engine: what single operations yield. -/
import Derived.Test.YtbegnjhfhnaagaaDoorSxB
namespace Go.Sx

/-! ### Facts on the program's types, as functions -/
def elemTy (P : Program) (t : TypeId) : Option TypeId :=
  match P.underlying t with
  | some (.slice e) => some e
  | _ => none
def elemSize (P : Program) (t : TypeId) : Option Nat :=
  match elemTy P t with
  | some e => (P.info? e).map (·.size)
  | none => none
def fieldOff (P : Program) (t : TypeId) (f : Nat) : Option Nat :=
  match P.underlying t with
  | some (.struct fs) => match fs[f]? with
    | some fl => match P.info? fl.type with
      | some i => if i.size = 0 then none else some fl.offset
      | none => none
    | none => none
  | _ => none
/-- is it an aggregate, and of how many cells -/
def tyCells (P : Program) (t : TypeId) : Option (Bool × Nat) :=
  match P.underlying t, P.info? t with
  | some d, some i => some ((match d with | .struct _ | .array _ _ => true | _ => false), i.size)
  | _, _ => none

theorem elemTy_some {P : Program} {t e : TypeId} (h : elemTy P t = some e) : P.underlying t = some (.slice e) := by
  unfold elemTy at h
  split at h
  · rename_i hu; injection h with h; subst h; exact hu
  · cases h

theorem elemSize_some {P : Program} {t n : Nat} (h : elemSize P t = some n) : ∃ e i, P.underlying t = some (.slice e) ∧ P.info? e = some i ∧ i.size = n := by
  unfold elemSize at h
  split at h
  · rename_i e he
    cases hi : P.info? e with
    | none => simp [hi] at h
    | some i => simp [hi] at h; exact ⟨e, i, elemTy_some he, hi, h⟩
  · cases h

theorem run_under {P : Program} {t : TypeId} {d : TypeDesc} (h : P.underlying t = some d) (w : World) : (underlying t).run P w = .ok d w := run_underlying h w

theorem run_sizeOf' {P : Program} {e : TypeId} {i : TypeInfo} (h : P.info? e = some i) (w : World) : (sizeOf e).run P w = .ok i.size w := by
  simp [sizeOf, typeInfo, h]

section
variable {P : Program} {η : List Ob} {σ : Sl} {dst : Option Nat} {ty : TypeId} {pos : String} {after : Array Edge} {gd : Option (Nat × Bool)}

/-! ### copies -/
theorem Y_copy {o : Oper} {x : Operand} {s : SV} (ho : o.op = .move x ∨ o.op = .assign x) (h : oval σ x = s) : Ylds P η σ o s := by
  refine Ylds.same fun g w a hi hx => ⟨a.eval x, ?_, ?_⟩
  · rcases ho with ho | ho <;> simp [execOp, ho]
  · have := hx x (by rcases ho with ho | ho <;> simp [ho, Op.operands])
    rw [h] at this; exact this

theorem Y_move_d {x : Operand} {d : D} (h : oval σ x = .d d) : Ylds P η σ ⟨dst, .move x, ty, pos, after, gd⟩ (.d d) := Y_copy (.inl rfl) h
theorem Y_move_nil {x : Operand} (h : oval σ x = .nil) : Ylds P η σ ⟨dst, .move x, ty, pos, after, gd⟩ .nil := Y_copy (.inl rfl) h
theorem Y_move_ptr {x : Operand} {i o : Nat} (h : oval σ x = .ptr i o) : Ylds P η σ ⟨dst, .move x, ty, pos, after, gd⟩ (.ptr i o) := Y_copy (.inl rfl) h
theorem Y_move_rptr {x : Operand} {cs : List D} (h : oval σ x = .rptr cs) : Ylds P η σ ⟨dst, .move x, ty, pos, after, gd⟩ (.rptr cs) := Y_copy (.inl rfl) h
theorem Y_move_buf {x : Operand} {i n : Nat} (h : oval σ x = .buf i n) : Ylds P η σ ⟨dst, .move x, ty, pos, after, gd⟩ (.buf i n) := Y_copy (.inl rfl) h
theorem Y_move_clo {x : Operand} {f : FuncId} {ids : List Nat} (h : oval σ x = .clo f ids) : Ylds P η σ ⟨dst, .move x, ty, pos, after, gd⟩ (.clo f ids) := Y_copy (.inl rfl) h
theorem Y_assign_d {x : Operand} {d : D} (h : oval σ x = .d d) : Ylds P η σ ⟨dst, .assign x, ty, pos, after, gd⟩ (.d d) := Y_copy (.inr rfl) h
theorem Y_assign_nil {x : Operand} (h : oval σ x = .nil) : Ylds P η σ ⟨dst, .assign x, ty, pos, after, gd⟩ .nil := Y_copy (.inr rfl) h
theorem Y_assign_ptr {x : Operand} {i o : Nat} (h : oval σ x = .ptr i o) : Ylds P η σ ⟨dst, .assign x, ty, pos, after, gd⟩ (.ptr i o) := Y_copy (.inr rfl) h
theorem Y_assign_rptr {x : Operand} {cs : List D} (h : oval σ x = .rptr cs) : Ylds P η σ ⟨dst, .assign x, ty, pos, after, gd⟩ (.rptr cs) := Y_copy (.inr rfl) h
theorem Y_assign_buf {x : Operand} {i n : Nat} (h : oval σ x = .buf i n) : Ylds P η σ ⟨dst, .assign x, ty, pos, after, gd⟩ (.buf i n) := Y_copy (.inr rfl) h
theorem Y_assign_clo {x : Operand} {f : FuncId} {ids : List Nat} (h : oval σ x = .clo f ids) : Ylds P η σ ⟨dst, .assign x, ty, pos, after, gd⟩ (.clo f ids) := Y_copy (.inr rfl) h

theorem Y_pick_t {c x y : Operand} {d : D} (hc : oval σ c = .d (.val (.bool true))) (hx : oval σ x = .d d) : Ylds P η σ ⟨dst, .pick c x y, ty, pos, after, gd⟩ (.d d) := by
  refine Ylds.same fun g w a hi h => ⟨a.eval x, ?_, ?_⟩
  · have h1 := h c (by simp [Op.operands]); rw [hc] at h1
    simp [execOp, RepD.val_eq h1, asBool]
  · have h2 := h x (by simp [Op.operands]); rw [hx] at h2; exact h2
theorem Y_pick_f {c x y : Operand} {d : D} (hc : oval σ c = .d (.val (.bool false))) (hy : oval σ y = .d d) : Ylds P η σ ⟨dst, .pick c x y, ty, pos, after, gd⟩ (.d d) := by
  refine Ylds.same fun g w a hi h => ⟨a.eval y, ?_, ?_⟩
  · have h1 := h c (by simp [Op.operands]); rw [hc] at h1
    simp [execOp, RepD.val_eq h1, asBool]
  · have h2 := h y (by simp [Op.operands]); rw [hy] at h2; exact h2

/-! ### one or two plain values -/
theorem Y_bin {op : BinOp} {t yt : TypeId} {x y : Operand} {u v r : Value} (hx : oval σ x = .d (.val u)) (hy : oval σ y = .d (.val v))
    (hr : ∀ w, ((do eqGuard op t x y u v; binOp op t u v : Sem Value)).run P w = .ok r w) : Ylds P η σ ⟨dst, .binOp op t x y yt, ty, pos, after, gd⟩ (.d (.val r)) := by
  refine Ylds.same fun g w a hi h => ⟨r, ?_, .val r⟩
  have h1 := h x (by simp [Op.operands]); rw [hx] at h1
  have h2 := h y (by simp [Op.operands]); rw [hy] at h2
  have := hr w
  simp only [execOp, RepD.val_eq h1, RepD.val_eq h2, Sem.run_bind, Sem.run_pure] at this ⊢
  generalize (eqGuard op t x y u v).run P w = A at this ⊢
  cases A with
  | ok q w' => simp only [Result.andThen_ok] at this ⊢; rw [this]; rfl
  | halt q w' => simp only [Result.andThen_halt] at this; cases this

theorem Y_un {op : UnOp} {t : TypeId} {x : Operand} {u r : Value} (hx : oval σ x = .d (.val u)) (hr : Op.unary op u = pure r) : Ylds P η σ ⟨dst, .unOp op t x, ty, pos, after, gd⟩ (.d (.val r)) := by
  refine Ylds.same fun g w a hi h => ⟨r, ?_, .val r⟩
  have h1 := h x (by simp [Op.operands]); rw [hx] at h1
  simp [execOp, RepD.val_eq h1, hr]

variable {t yt : TypeId} {x y : Operand}
theorem Y_lss {k : IntKind} {m n : Int} (hx : oval σ x = .d (.val (.int k m))) (hy : oval σ y = .d (.val (.int k n))) : Ylds P η σ ⟨dst, .binOp .lss t x y yt, ty, pos, after, gd⟩ (.d (.val (.bool (decide (m < n))))) :=
  Y_bin hx hy fun w => by simp [go_sem, binOp_lss]
theorem Y_leq {k : IntKind} {m n : Int} (hx : oval σ x = .d (.val (.int k m))) (hy : oval σ y = .d (.val (.int k n))) : Ylds P η σ ⟨dst, .binOp .leq t x y yt, ty, pos, after, gd⟩ (.d (.val (.bool (decide (m ≤ n))))) :=
  Y_bin hx hy fun w => by simp [go_sem, binOp_leq]
theorem Y_gtr {k : IntKind} {m n : Int} (hx : oval σ x = .d (.val (.int k m))) (hy : oval σ y = .d (.val (.int k n))) : Ylds P η σ ⟨dst, .binOp .gtr t x y yt, ty, pos, after, gd⟩ (.d (.val (.bool (decide (m > n))))) :=
  Y_bin hx hy fun w => by simp [go_sem, binOp_gtr]
theorem Y_geq {k : IntKind} {m n : Int} (hx : oval σ x = .d (.val (.int k m))) (hy : oval σ y = .d (.val (.int k n))) : Ylds P η σ ⟨dst, .binOp .geq t x y yt, ty, pos, after, gd⟩ (.d (.val (.bool (decide (m ≥ n))))) :=
  Y_bin hx hy fun w => by simp [go_sem, binOp_geq]
theorem Y_eql {k : IntKind} {m n : Int} (hx : oval σ x = .d (.val (.int k m))) (hy : oval σ y = .d (.val (.int k n))) : Ylds P η σ ⟨dst, .binOp .eql t x y yt, ty, pos, after, gd⟩ (.d (.val (.bool (decide (m = n))))) :=
  Y_bin hx hy fun w => by
    simp only [go_sem, binOp_eql, eqGuard_at_int, Sem.run_bind, Sem.run_pure, Result.andThen_ok, Result.ok.injEq, Value.bool.injEq, and_true]
    by_cases h : m = n <;> simp [h]
theorem Y_neq {k : IntKind} {m n : Int} (hx : oval σ x = .d (.val (.int k m))) (hy : oval σ y = .d (.val (.int k n))) : Ylds P η σ ⟨dst, .binOp .neq t x y yt, ty, pos, after, gd⟩ (.d (.val (.bool (decide (m ≠ n))))) :=
  Y_bin hx hy fun w => by
    simp only [go_sem, binOp_neq, eqGuard_at_int, Sem.run_bind, Sem.run_pure, Result.andThen_ok, Result.ok.injEq, Value.bool.injEq, and_true]
    by_cases h : m = n <;> simp [h]
theorem wrap64_in {n : Int} (h1 : -9223372036854775808 ≤ n) (h2 : n ≤ 9223372036854775807) : IntKind.i64.wrap n = n := Go.IntWalk.i64_in n ⟨h1, h2⟩
theorem Y_add {m n : Int} (hx : oval σ x = .d (.val (.int .i64 m))) (hy : oval σ y = .d (.val (.int .i64 n))) (h1 : -9223372036854775808 ≤ m + n ∧ m + n ≤ 9223372036854775807) : Ylds P η σ ⟨dst, .binOp .add t x y yt, ty, pos, after, gd⟩ (.d (.val (.int .i64 (m + n)))) :=
  Y_bin hx hy fun w => by
    simp only [eqGuard_add, binOp_add, Op.intArith, Sem.run_bind, Sem.run_pure, Result.andThen_ok]
    rw [wrap64_in h1.1 h1.2]
theorem Y_sub {m n : Int} (hx : oval σ x = .d (.val (.int .i64 m))) (hy : oval σ y = .d (.val (.int .i64 n))) (h1 : -9223372036854775808 ≤ m - n ∧ m - n ≤ 9223372036854775807) : Ylds P η σ ⟨dst, .binOp .sub t x y yt, ty, pos, after, gd⟩ (.d (.val (.int .i64 (m - n)))) :=
  Y_bin hx hy fun w => by
    simp only [eqGuard_sub, binOp_sub, Op.intArith, Sem.run_bind, Sem.run_pure, Result.andThen_ok]
    rw [wrap64_in h1.1 h1.2]
theorem Y_mul {m n : Int} (hx : oval σ x = .d (.val (.int .i64 m))) (hy : oval σ y = .d (.val (.int .i64 n))) (h1 : -9223372036854775808 ≤ m * n ∧ m * n ≤ 9223372036854775807) : Ylds P η σ ⟨dst, .binOp .mul t x y yt, ty, pos, after, gd⟩ (.d (.val (.int .i64 (m * n)))) :=
  Y_bin hx hy fun w => by
    simp only [eqGuard_mul, binOp_mul, Op.intArith, Sem.run_bind, Sem.run_pure, Result.andThen_ok]
    rw [wrap64_in h1.1 h1.2]
theorem Y_addw {k : IntKind} {m n : Int} (hx : oval σ x = .d (.val (.int k m))) (hy : oval σ y = .d (.val (.int k n))) : Ylds P η σ ⟨dst, .binOp .add t x y yt, ty, pos, after, gd⟩ (.d (.val (.int k (k.wrap (m + n))))) :=
  Y_bin hx hy fun w => by simp only [eqGuard_add, binOp_add, Op.intArith, Sem.run_bind, Sem.run_pure, Result.andThen_ok]
theorem Y_subw {k : IntKind} {m n : Int} (hx : oval σ x = .d (.val (.int k m))) (hy : oval σ y = .d (.val (.int k n))) : Ylds P η σ ⟨dst, .binOp .sub t x y yt, ty, pos, after, gd⟩ (.d (.val (.int k (k.wrap (m - n))))) :=
  Y_bin hx hy fun w => by simp only [eqGuard_sub, binOp_sub, Op.intArith, Sem.run_bind, Sem.run_pure, Result.andThen_ok]
theorem Y_mulw {k : IntKind} {m n : Int} (hx : oval σ x = .d (.val (.int k m))) (hy : oval σ y = .d (.val (.int k n))) : Ylds P η σ ⟨dst, .binOp .mul t x y yt, ty, pos, after, gd⟩ (.d (.val (.int k (k.wrap (m * n))))) :=
  Y_bin hx hy fun w => by simp only [eqGuard_mul, binOp_mul, Op.intArith, Sem.run_bind, Sem.run_pure, Result.andThen_ok]
theorem Y_not {b : Bool} (hx : oval σ x = .d (.val (.bool b))) : Ylds P η σ ⟨dst, .unOp .not t x, ty, pos, after, gd⟩ (.d (.val (.bool (!b)))) := Y_un hx rfl

theorem Y_eqlb {a b : Bool} (hx : oval σ x = .d (.val (.bool a))) (hy : oval σ y = .d (.val (.bool b))) (hu : P.underlying t = some .bool) : Ylds P η σ ⟨dst, .binOp .eql t x y yt, ty, pos, after, gd⟩ (.d (.val (.bool (a == b)))) :=
  Y_bin hx hy fun w => by simp [eqGuard_at_bool, run_eql_bool w t a b hu]
theorem Y_neqb {a b : Bool} (hx : oval σ x = .d (.val (.bool a))) (hy : oval σ y = .d (.val (.bool b))) (hu : P.underlying t = some .bool) : Ylds P η σ ⟨dst, .binOp .neq t x y yt, ty, pos, after, gd⟩ (.d (.val (.bool (a != b)))) :=
  Y_bin hx hy fun w => by simp [eqGuard_at_bool, run_neq_bool w t a b hu]; cases a <;> cases b <;> rfl

/-! ### len -/
theorem Y_len_d {xs : List D} (hx : oval σ x = .d (.slice xs)) (hu : (elemTy P t).isSome = true) : Ylds P η σ ⟨dst, .call ⟨.builtin .len, #[x], #[t]⟩, ty, pos, after, gd⟩ (.d (.val (.int .i64 (xs.length : Int)))) := by
  obtain ⟨e, he⟩ := Option.isSome_iff_exists.1 hu
  refine Ylds.same fun g w a hi h => ⟨.int .i64 (xs.length : Int), ?_, .val _⟩
  have h1 := h x (by simp [Op.operands, Call.operands]); rw [hx] at h1
  change RepD _ _ _ _ at h1
  generalize hv : a.eval x = v at h1
  cases h1 with
  | slice ad len cap sz _ us hlen =>
    subst hlen
    simp [execOp, resolve, invoke, builtin, Builtin.len_, run_underlying (elemTy_some he), hv, goInt]
theorem Y_len_nil (hx : oval σ x = .nil) (hu : (elemTy P t).isSome = true) : Ylds P η σ ⟨dst, .call ⟨.builtin .len, #[x], #[t]⟩, ty, pos, after, gd⟩ (.d (.val (.int .i64 0))) := by
  obtain ⟨e, he⟩ := Option.isSome_iff_exists.1 hu
  refine Ylds.same fun g w a hi h => ⟨.int .i64 0, ?_, .val _⟩
  have h1 := h x (by simp [Op.operands, Call.operands]); rw [hx] at h1
  change _ = _ at h1
  simp [execOp, resolve, invoke, builtin, Builtin.len_, run_underlying (elemTy_some he), h1, goInt]
theorem Y_len_buf {i n : Nat} (hx : oval σ x = .buf i n) (hu : (elemTy P t).isSome = true) : Ylds P η σ ⟨dst, .call ⟨.builtin .len, #[x], #[t]⟩, ty, pos, after, gd⟩ (.d (.val (.int .i64 (n : Int)))) := by
  obtain ⟨e, he⟩ := Option.isSome_iff_exists.1 hu
  refine Ylds.same fun g w a hi h => ⟨.int .i64 (n : Int), ?_, .val _⟩
  have h1 := h x (by simp [Op.operands, Call.operands]); rw [hx] at h1
  obtain ⟨_, h1⟩ := h1
  simp [execOp, resolve, invoke, builtin, Builtin.len_, run_underlying (elemTy_some he), h1, goInt]
theorem Y_len_str {s : ByteArray} (hx : oval σ x = .d (.val (.string s))) (hu : P.underlying t = some .string) : Ylds P η σ ⟨dst, .call ⟨.builtin .len, #[x], #[t]⟩, ty, pos, after, gd⟩ (.d (.val (.int .i64 (s.size : Int)))) := by
  refine Ylds.same fun g w a hi h => ⟨.int .i64 (s.size : Int), ?_, .val _⟩
  have h1 := h x (by simp [Op.operands, Call.operands]); rw [hx] at h1
  simp [execOp, resolve, invoke, builtin, Builtin.len_, run_underlying hu, RepD.val_eq h1, goInt]

/-! ### max, min of two -/
theorem Y_max {k : IntKind} {m n : Int} {ts : Array TypeId} (hx : oval σ x = .d (.val (.int k m))) (hy : oval σ y = .d (.val (.int k n))) : Ylds P η σ ⟨dst, .call ⟨.builtin .max, #[x, y], ts⟩, ty, pos, after, gd⟩ (.d (.val (.int k (max m n)))) := by
  refine Ylds.same fun g w a hi h => ⟨.int k (max m n), ?_, .val _⟩
  have h1 := h x (by simp [Op.operands, Call.operands]); rw [hx] at h1
  have h2 := h y (by simp [Op.operands, Call.operands]); rw [hy] at h2
  simp [execOp, resolve, invoke, builtin, RepD.val_eq h1, RepD.val_eq h2, run_max_int2]; omega

/-! ### parts of a tuple, of an aggregate -/
theorem Y_extract {i : Nat} {ds : List D} {d : D} (hx : oval σ x = .d (.tup ds)) (hd : ds[i]? = some d) : Ylds P η σ ⟨dst, .extract x i, ty, pos, after, gd⟩ (.d d) := by
  refine Ylds.same fun g w a hi h => ?_
  have h1 := h x (by simp [Op.operands]); rw [hx] at h1
  change RepD _ _ _ _ at h1
  generalize hv : a.eval x = v at h1
  cases h1 with
  | tup vs cs hl hr =>
    have hlt : i < vs.length := by rw [hl]; exact (List.getElem?_eq_some_iff.1 hd).1
    refine ⟨vs[i], ?_, hr i _ _ (List.getElem?_eq_getElem hlt) hd⟩
    simp [execOp, hv, Instr.extract, hlt]

/-! ### places -/
theorem flats_len {xs : List D} {sz : Nat} (h : ∀ x ∈ xs, x.flat.length = sz) : (flats xs).length = xs.length * sz := by
  induction xs with
  | nil => simp [flats]
  | cons x r ih =>
    have h1 := h x (by simp)
    have h2 := ih (fun y hy => h y (by simp [hy]))
    simp only [flats, List.flatMap_cons, List.length_append, List.length_cons] at h2 ⊢
    rw [h1, h2, Nat.add_mul]; omega

theorem flats_at {sz : Nat} : ∀ {xs : List D} (_ : ∀ x ∈ xs, x.flat.length = sz) {i : Nat} {d : D} (_ : xs[i]? = some d) {j : Nat} (_ : j < sz), (flats xs)[i * sz + j]? = d.flat[j]?
  | [], _, i, d, hi, _, _ => by simp at hi
  | x :: r, h, 0, d, hi, j, hj => by
    simp at hi; subst hi
    have h1 := h x (by simp)
    simp only [flats, List.flatMap_cons]
    rw [List.getElem?_append_left (by omega)]; simp
  | x :: r, h, i + 1, d, hi, j, hj => by
    have h1 := h x (by simp)
    simp at hi
    have ih := flats_at (sz := sz) (xs := r) (fun y hy => h y (by simp [hy])) hi hj
    simp only [flats, List.flatMap_cons] at ih ⊢
    rw [List.getElem?_append_right (by rw [h1, Nat.add_mul]; omega)]
    rw [← ih, h1]; congr 1; rw [Nat.add_mul]; omega

theorem add_add' (a : Addr) (i j : Nat) : (a.add i).add j = a.add (i + j) := by
  unfold Addr.add
  by_cases hi : i = 0 <;> by_cases hj : j = 0 <;> simp [hi, hj, Nat.add_assoc]

theorem Cell.shift {St : Stab} {w : World} {ad : Addr} {i j : Nat} {u : Value} (h : Cell St w ad (i + j) u) : Cell St w (ad.add i) j u := by
  refine ⟨?_, by rw [add_add']; exact h.2⟩
  have := h.1
  unfold Addr.add
  by_cases hi : i = 0
  · subst hi; simpa using this
  · simp [hi]; simpa [Nat.add_assoc] using this

theorem list_drop_get {α : Type} (l : List α) (i j : Nat) : (l.drop i)[j]? = l[i + j]? := by simp

theorem Y_index {sz : Nat} {n : Int} {xs : List D} {d : D} {k : IntKind} (hx : oval σ x = .d (.slice xs)) (hy : oval σ y = .d (.val (.int k n))) (hs : elemSize P t = some sz) (h0 : 0 ≤ n) (hd : xs[n.toNat]? = some d) (hf : d.flat.length = sz) (hp : 0 < sz) :
    Ylds P η σ ⟨dst, .indexAddr t x y, ty, pos, after, gd⟩ (.rptr d.flat) := by
  obtain ⟨e, i, hu, hi', hsz'⟩ := elemSize_some hs
  refine Ylds.same fun g w a hi h => ?_
  have h1 := h x (by simp [Op.operands]); rw [hx] at h1
  have h2 := h y (by simp [Op.operands]); rw [hy] at h2
  change RepD _ _ _ _ at h1
  generalize hv : a.eval x = v at h1
  have hlt : n.toNat < xs.length := (List.getElem?_eq_some_iff.1 hd).1
  cases h1 with
  | slice ad len cap sz' _ us hlen hcap hm hsz hus h1c hcell hrep =>
    have hszz : sz' = sz := by rw [← hf]; exact (hsz d (List.mem_of_getElem? hd)).symm
    subst hszz
    obtain ⟨ad, rfl, hc⟩ := hcell (by omega)
    have hul : us.length = xs.length * sz' := by rw [hus, flats_len hsz]
    have hmul : (n.toNat + 1) * sz' ≤ xs.length * sz' := Nat.mul_le_mul_right _ (by omega)
    refine ⟨.pointer (some (ad.add (n.toNat * sz'))), ?_, ad.add (n.toNat * sz'), (us.drop (n.toNat * sz')).take sz', rfl, ?_, ?_, ?_, ?_⟩
    · have hb : 0 ≤ n ∧ n < (len : Int) := ⟨h0, by omega⟩
      simp [execOp, hv, RepD.val_eq h2, Instr.indexAt, asIntOf, run_underlying hu, hb.1, hb.2, sizeOf, typeInfo, hi', hsz']
    · rw [List.length_take, List.length_drop, hf, hul]; rw [Nat.add_mul] at hmul; omega
    · exact fun u hm => h1c u (List.mem_of_mem_drop (List.mem_of_mem_take hm))
    · intro j u hj
      rw [List.getElem?_take] at hj
      split at hj
      · rw [list_drop_get] at hj; exact (hc _ _ hj).shift
      · cases hj
    · intro j u d' hj hd'
      rw [List.getElem?_take] at hj
      split at hj
      · rename_i hlt'
        rw [list_drop_get] at hj
        exact hrep _ _ _ hj ((flats_at hsz hd hlt').trans hd')
      · cases hj

theorem Y_field_r {f off : Nat} {cs : List D} (hx : oval σ x = .rptr cs) (hf : fieldOff P t f = some off) : Ylds P η σ ⟨dst, .fieldAddr t x f, ty, pos, after, gd⟩ (.rptr (cs.drop off)) := by
  refine Ylds.same fun g w a hi h => ?_
  have h1 := h x (by simp [Op.operands]); rw [hx] at h1
  obtain ⟨ad, us, hv, hl, ho, hc, hr⟩ := h1
  unfold fieldOff at hf
  split at hf
  · rename_i fs hfs
    split at hf
    · rename_i fl hfl
      split at hf
      · rename_i i hi'
        split at hf
        · cases hf
        · rename_i hne
          injection hf with hf
          subst hf
          refine ⟨.pointer (some (ad.add fl.offset)), ?_, ad.add fl.offset, us.drop fl.offset, rfl, by simp [hl], fun u hm => ho u (List.mem_of_mem_drop hm), fun j u hj => ?_, fun j u d hj hd => ?_⟩
          · simp [execOp, hv, Instr.fieldAt, run_underlying hfs, hfl, Instr.sureAddr, fieldPlace, sizeOf, typeInfo, hi', hne]
          · rw [list_drop_get] at hj; exact (hc _ _ hj).shift
          · rw [list_drop_get] at hj hd; exact hr _ _ _ hj hd
      · cases hf
    · cases hf
  · cases hf

theorem tyCells_some {P : Program} {t : TypeId} {b : Bool} {n : Nat} (h : tyCells P t = some (b, n)) (w : World) : (isAgg t).run P w = .ok b w ∧ (sizeOf t).run P w = .ok n w := by
  unfold tyCells at h
  split at h
  · rename_i d i hd hi
    simp only [Option.some.injEq, Prod.mk.injEq] at h
    refine ⟨?_, by simp [sizeOf, typeInfo, hi, h.2]⟩
    unfold isAgg
    simp only [Sem.run_bind, run_underlying hd, Result.andThen_ok]
    rw [← h.1]
    cases d <;> rfl
  · cases h

theorem Y_load_r1 {cs : List D} {d : D} {n : Nat} (hx : oval σ x = .rptr (d :: cs)) (ht : tyCells P t = some (false, n)) : Ylds P η σ ⟨dst, .load t x, ty, pos, after, gd⟩ (.d d) := by
  refine Ylds.same fun g w a hi h => ?_
  have h1 := h x (by simp [Op.operands]); rw [hx] at h1
  obtain ⟨ad, us, hv, hl, ho, hc, hr⟩ := h1
  cases us with
  | nil => simp at hl
  | cons u us =>
    have h0 := (hc 0 u rfl).2
    refine ⟨u, ?_, hr 0 u d rfl rfl⟩
    simp only [Addr.add_zero'] at h0
    simp [execOp, hv, Instr.loadAt, Instr.sureAddr, loadVar, (tyCells_some ht w).1, h0]

theorem Y_load_r {cs : List D} {n : Nat} (hx : oval σ x = .rptr cs) (ht : tyCells P t = some (true, n)) (hn : Nat.ble n cs.length = true) : Ylds P η σ ⟨dst, .load t x, ty, pos, after, gd⟩ (.d (.agg (cs.take n))) := by
  have hn := Nat.le_of_ble_eq_true hn
  refine Ylds.same fun g w a hi h => ?_
  have h1 := h x (by simp [Op.operands]); rw [hx] at h1
  obtain ⟨ad, us, hv, hl, ho, hc, hr⟩ := h1
  have hrun := run_loadCells_list (P := P) w ad (us.take n) (fun j v hj => (hc j v (by rw [List.getElem?_take] at hj; split at hj <;> simp_all)).2)
  have hlen : (us.take n).length = n := by rw [List.length_take]; omega
  rw [hlen] at hrun
  refine ⟨.agg (us.take n).toArray, ?_, .agg _ _ (by simp [hl]) (fun u hm => ho u (List.mem_of_mem_take hm)) (fun j u d hj hd => ?_)⟩
  · simp only [execOp, hv, Instr.loadAt, Instr.sureAddr, loadVar, Sem.run_bind, Sem.run_pure, Result.andThen_ok, (tyCells_some ht w).1, (tyCells_some ht w).2, if_true, hrun]
  · rw [List.getElem?_take] at hj hd
    split at hj
    · rename_i hlt; rw [if_pos hlt] at hd; exact hr _ _ _ hj hd
    · cases hj
end

end Go.Sx
