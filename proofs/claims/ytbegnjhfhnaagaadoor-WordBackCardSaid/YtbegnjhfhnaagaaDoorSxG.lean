/- The engine: boxes of the call's own (variables whose address is taken, structs), and what is read of them. -/
import Derived.Test.YtbegnjhfhnaagaaDoorSxF
namespace Go.Sx
open Go.RowKit

def upd {α : Type} (f : Nat → α) (i : Nat) (x : α) : Nat → α := fun j => if j = i then x else f j

theorem RepS.ext {g g' : Gh} {w w' : World} {v : Value} {s : SV} (k : Keep g.St w g'.St w') (h : ∀ id, id < g.n → g'.blk id = g.blk id ∧ g'.cap id = g.cap id ∧ g'.sz id = g.sz id) (hn : g.n ≤ g'.n) (r : RepS g w v s) : RepS g' w' v s := by
  cases s with
  | d d => exact RepD.keep k r
  | nil => exact r
  | ptr id off => obtain ⟨h1, b, h2, h3⟩ := r; exact ⟨by omega, b, by rw [(h id h1).1]; exact h2, h3⟩
  | rptr cs =>
    obtain ⟨ad, us, h1, h2, h3, h4, h5⟩ := r
    exact ⟨ad, us, h1, h2, h3, fun j u hu => (h4 j u hu).keep k, fun j u d hu hd => (h5 j u d hu hd).keep k⟩
  | bptr id i off => obtain ⟨h1, b, h2, h3⟩ := r; exact ⟨by omega, b, by rw [(h id h1).1]; exact h2, by rw [(h id h1).2.2]; exact h3⟩
  | buf id n => obtain ⟨h1, h2⟩ := r; exact ⟨by omega, by rw [(h id h1).1, (h id h1).2.1]; exact h2⟩
  | clo f ids =>
    obtain ⟨vs, h1, h2, h3⟩ := r
    refine ⟨vs, h1, h2, fun j id u hj hu => ?_⟩
    obtain ⟨h4, b, h5, h6⟩ := h3 j id u hj hu
    exact ⟨by omega, b, by rw [(h id h4).1]; exact h5, h6⟩
  | top => trivial

theorem ObOk.ext {g g' : Gh} {w w' : World} {id : Nat} {o : Ob} (k : Keep g.St w g'.St w') (h : ∀ id, id < g.n → g'.blk id = g.blk id ∧ g'.cap id = g.cap id ∧ g'.sz id = g.sz id) (hn : g.n ≤ g'.n) (hid : id < g.n)
    (hb : ∀ b, g.blk id = some b → w'.heap[b]? = w.heap[b]? ∧ ∀ o, g'.St b o ↔ g.St b o) (r : ObOk g w id o) : ObOk g' w' id o := by
  cases o with
  | box cs =>
    obtain ⟨b, e, us, h1, h2, h3, h4, h5, h6⟩ := r
    exact ⟨b, e, us, by rw [(h id hid).1]; exact h1, (hb b h1).1.trans h2, h3, h4, fun j u s hu hs => (h5 j u s hu hs).ext k h hn, fun o ho => h6 o (((hb b h1).2 o).1 ho)⟩
  | buf mu e sz xs =>
    obtain ⟨h1, h2, h3, h4, h5⟩ := r
    refine ⟨by rw [(h id hid).2.2]; exact h1, h2, by rw [(h id hid).2.1]; exact h3, by rw [(h id hid).2.1]; exact h4, ?_⟩
    rcases h5 with h5 | ⟨b, us, h5, h6, h7, h8, h9, h10⟩
    · exact .inl (by rw [(h id hid).1, (h id hid).2.1]; exact h5)
    · exact .inr ⟨b, us, by rw [(h id hid).1]; exact h5, (hb b h5).1.trans h6, by rw [(h id hid).2.1]; exact h7, h8, fun j u d hu hd => (h9 j u d hu hd).keep k, fun o => ((hb b h5).2 o).trans (h10 o)⟩
  | iter s pos =>
    obtain ⟨b, h1, h2, h3⟩ := r
    exact ⟨b, by rw [(h id hid).1]; exact h1, (hb b h1).1.trans h2, fun o ho => h3 o (((hb b h1).2 o).1 ho)⟩
  | gone => trivial

/-- AN OBJECT MORE. -/
theorem AbsG.newOb {C : Ctx} {g g' : Gh} {σ : Sl} {η : List Ob} {a : Act} {w w' : World} (h : AbsG C g σ η a w) (o : Ob)
    (os : w'.os = w.os) (tape : w'.tape = w.tape) (output : w'.output = w.output) (size : w.heap.size ≤ w'.heap.size)
    (heap : ∀ k, k < w.heap.size → w'.heap[k]? = w.heap[k]?)
    (hn : g'.n = g.n + 1) (hold : ∀ id, id < g.n → g'.blk id = g.blk id ∧ g'.cap id = g.cap id ∧ g'.sz id = g.sz id) (hdead : ∀ id, g.n + 1 ≤ id → g'.blk id = none)
    (hnew : ∀ b, g'.blk g.n = some b → w.heap.size ≤ b ∧ b < w'.heap.size)
    (sub : ∀ b o, g.St b o → g'.St b o) (new : ∀ b o, g'.St b o → g.St b o ∨ w.heap.size ≤ b) (lt : ∀ b o, g'.St b o → b < w'.heap.size)
    (_hro : C.ro ≤ g.n) (ok : ObOk g' w' g.n o) : AbsG C g' σ (η ++ [o]) a w' := by
  have kp : Keep g.St w g'.St w' := ⟨sub, fun b o u hb hu => (World.cell?_of_block (a := ⟨b, o, none⟩) (heap b (h.inv.st b o hb))).trans hu, fun b hb => heap b (h.inv.st b 0 (hb 0))⟩
  have stb : ∀ id b, g.blk id = some b → ∀ o, g'.St b o ↔ g.St b o := fun id b hb o => ⟨fun ho => by
    rcases new b o ho with h1 | h1
    · exact h1
    · exact absurd (h.inv.lt id b hb) (by omega), sub b o⟩
  have hlt : ∀ id b, g'.blk id = some b → (id < g.n ∧ g.blk id = some b) ∨ (id = g.n ∧ w.heap.size ≤ b ∧ b < w'.heap.size) := by
    intro id b hb
    rcases Nat.lt_trichotomy id g.n with hc | hc | hc
    · rw [(hold id hc).1] at hb; exact .inl ⟨hc, hb⟩
    · subst hc; exact .inr ⟨rfl, hnew b hb⟩
    · rw [hdead id hc] at hb; cases hb
  refine ⟨h.defers, h.size, ⟨by rw [hn, h.inv.n]; simp, fun id b hb => ?_, fun id hid => hdead id (by omega), fun i j b hi hj => ?_, fun id o' ho => ?_, lt, h.inv.gl.keep kp⟩, os.trans h.os, tape.trans h.tape, output.trans h.output, Nat.le_trans h.wsize size,
    fun k hk hx => (heap k (Nat.lt_of_lt_of_le hk h.wsize)).trans (h.heap k hk hx), h.keep.trans kp, fun b o hb => ?_, fun id b hb hr => ?_, fun t => (h.rep t).ext kp hold (by omega)⟩
  · rcases hlt id b hb with ⟨_, h1⟩ | ⟨_, _, h1⟩
    · exact Nat.lt_of_lt_of_le (h.inv.lt id b h1) size
    · exact h1
  · rcases hlt i b hi with ⟨h1, h2⟩ | ⟨h1, h2, _⟩ <;> rcases hlt j b hj with ⟨h3, h4⟩ | ⟨h3, h4, _⟩
    · exact h.inv.inj i j b h2 h4
    · exact absurd (h.inv.lt i b h2) (by omega)
    · exact absurd (h.inv.lt j b h4) (by omega)
    · omega
  · have hl := h.inv.n
    rw [List.getElem?_append] at ho
    split at ho
    · rename_i hc
      exact (h.inv.ob id o' ho).ext kp hold (by omega) (by omega) (fun b hb => ⟨heap b (h.inv.lt id b hb), stb id b hb⟩)
    · rename_i hc
      have hid : id = g.n := by
        have := (List.getElem?_eq_some_iff.1 ho).1
        simp at this; omega
      subst hid
      have : g.n - η.length = 0 := by omega
      rw [this] at ho
      simp at ho; subst ho; exact ok
  · rcases new b o hb with h1 | h1
    · exact h.new b o h1
    · exact .inr (.inl (Nat.le_trans h.wsize h1))
  · rcases hlt id b hb with ⟨_, h1⟩ | ⟨_, h1, _⟩
    · exact h.own id b h1 hr
    · exact .inl (Nat.le_trans h.wsize h1)

/-- A BOX IS WRITTEN. -/
theorem AbsG.setBox {C : Ctx} {g : Gh} {σ : Sl} {η : List Ob} {a : Act} {w : World} (h : AbsG C g σ η a w) {id b : Nat} {e : TypeId} {us us' : Array Value} {cs cs' : List SV} (hid : η[id]? = some (.box cs)) (hb : g.blk id = some b) (hro : C.ro ≤ id)
    (hh : w.heap[b]? = some (.cells us e (0, 0))) (hst : ∀ o, ¬ g.St b o) (hl : us'.size = cs'.length) (h1 : ∀ u ∈ us', u.oneCell' = true) (hr : ∀ (j : Nat) (u : Value) (s : SV), us'[j]? = some u → cs'[j]? = some s → RepS g w u s) :
    AbsG C g σ (η.set id (.box cs')) a (w.setRow b us') := by
  have hoth : ∀ k, k ≠ b → (w.setRow b us').heap[k]? = w.heap[k]? := fun k hk => setRow_other w b k us' hk
  have kp : Keep g.St w g.St (w.setRow b us') := ⟨fun _ _ h => h, fun c o u hc hu => (World.cell?_of_block (a := ⟨c, o, none⟩) (hoth c (fun e => hst o (e ▸ hc)))).trans hu, fun c hc => hoth c (fun e => hst 0 (e ▸ hc 0))⟩
  have rk : ∀ {v : Value} {s : SV}, RepS g w v s → RepS g (w.setRow b us') v s := fun r => r.ext kp (fun _ _ => ⟨rfl, rfl, rfl⟩) (Nat.le_refl _)
  have hidl : id < η.length := (List.getElem?_eq_some_iff.1 hid).1
  refine ⟨h.defers, h.size, ⟨by rw [List.length_set]; exact h.inv.n, fun i c hc => by rw [setRow_size]; exact h.inv.lt i c hc, h.inv.dead, h.inv.inj, fun i o ho => ?_, fun c o hc => by rw [setRow_size]; exact h.inv.st c o hc, h.inv.gl.keep kp⟩, h.os, h.tape, h.output, by rw [setRow_size]; exact h.wsize,
    fun k hk hx => ?_, h.keep.trans kp, h.new, h.own, fun t => rk (h.rep t)⟩
  · rw [List.getElem?_set] at ho
    split at ho
    · rename_i hc; subst hc
      try rw [if_pos hidl] at ho
      injection ho with ho; subst ho
      exact ⟨b, e, us', hb, setRow_heap w b us us' e (0, 0) hh, hl, h1, fun j u s hu hs => rk (hr j u s hu hs), hst⟩
    · rename_i hc
      refine (h.inv.ob i o ho).ext kp (fun _ _ => ⟨rfl, rfl, rfl⟩) (Nat.le_refl _) (by rw [h.inv.n]; exact (List.getElem?_eq_some_iff.1 ho).1) (fun c hcb => ⟨hoth c (fun e => ?_), fun _ => Iff.rfl⟩)
      subst e
      exact hc (h.inv.inj id i c hb hcb)
  · rw [hoth k (fun e => ?_)]
    · exact h.heap k hk hx
    · subst e
      rcases h.own id k hb hro with h2 | h2
      · omega
      · exact hx h2

/-- Is it one cell? -/
def one : SV → Bool
  | .d (.val u) => u.oneCell'
  | .d (.slice _) => true
  | .nil | .ptr _ _ | .rptr _ | .bptr _ _ _ | .buf _ _ | .clo _ _ => true
  | _ => false

theorem RepS.one {g : Gh} {w : World} {v : Value} {s : SV} (r : RepS g w v s) (h : one s = true) : v.cells = #[v] ∧ v.oneCell' = true := by
  have key : v.oneCell' = true → v.cells = #[v] := by cases v <;> simp [Value.oneCell', Value.cells]
  have : v.oneCell' = true := by
    cases s with
    | d d =>
      cases d with
      | val u => have := RepD.val_eq r; subst this; exact h
      | slice xs => change RepD _ _ _ _ at r; cases r; rfl
      | agg cs => cases h
      | tup ds => cases h
    | nil => change _ = _ at r; subst r; rfl
    | ptr id off => obtain ⟨_, b, _, rfl⟩ := r; rfl
    | rptr cs => obtain ⟨ad, us, rfl, _⟩ := r; rfl
    | bptr id i off => obtain ⟨_, b, _, rfl⟩ := r; rfl
    | buf id n => obtain ⟨_, rfl⟩ := r; rfl
    | clo f ids => obtain ⟨vs, rfl, _⟩ := r; rfl
    | top => cases h
  exact ⟨key this, this⟩

/-- the cells of what a slot holds -/
def scells : SV → Option (List SV)
  | .d (.agg ds) => some (ds.map .d)
  | s => match one s with
    | true => some [s]
    | false => none

theorem RepS.cells {g : Gh} {w : World} {v : Value} {s : SV} {cs : List SV} (r : RepS g w v s) (h : scells s = some cs) : v.cells.size = cs.length ∧ (∀ u ∈ v.cells, u.oneCell' = true) ∧ ∀ (j : Nat) (u : Value) (s' : SV), v.cells[j]? = some u → cs[j]? = some s' → RepS g w u s' := by
  unfold scells at h
  split at h
  · rename_i ds
    injection h with h; subst h
    change RepD _ _ _ _ at r
    cases r with
    | agg vs _ hl h1 hr =>
      refine ⟨by simp [Value.cells, hl], by simpa [Value.cells] using h1, fun j u s' hu hs => ?_⟩
      simp [Value.cells] at hu
      rw [List.getElem?_map] at hs
      cases hd : ds[j]? with
      | none => simp [hd] at hs
      | some d => simp [hd] at hs; subst hs; exact hr j u d hu hd
  · split at h
    · rename_i h1
      injection h with h; subst h
      obtain ⟨e, h2⟩ := r.one h1
      rw [e]
      refine ⟨rfl, by simpa using h2, fun j u s' hu hs => ?_⟩
      match j with
      | 0 => simp at hu hs; subst hu; subst hs; exact r
      | j + 1 => simp at hu
    · cases h

section
variable {C : Ctx} {ops : Array Oper} {rest : List Oper} {K : Sl → List Ob → Prop} {σ : Sl} {η : List Ob} {d : Nat} {ty : TypeId} {pos : String} {after : Array Edge} {gd : Option (Nat × Bool)} {t : TypeId} {x y : Operand}

/-- a world that an operation leaves, in a region whose order is laid down -/
theorem estep {o : Oper} {σ' : Sl} {η' : List Ob} (h : ∀ g a w, AbsG C g σ η a w → ∃ v w', (execOp a.eval o).run C.P w = .ok (.value v) w' ∧ Abs C σ' η' (a.put o.dst v) w')
    (hr : alex C false ops rest K σ' η') : astep C false ops o rest K σ η := by
  intro Q hQ a w ⟨g, ha⟩ K' hK'
  obtain ⟨v, w', h1, h2⟩ := h g a w ha
  unfold Oper.wp
  rw [h1]
  exact hK' _ _ (hr Q hQ _ _ h2)
theorem estep0 {o : Oper} {σ' : Sl} {η' : List Ob} (h : ∀ g a w, AbsG C g σ η a w → ∃ w', (execOp a.eval o).run C.P w = .ok .skip w' ∧ Abs C σ' η' (a.put o.dst undef) w')
    (hr : alex C false ops rest K σ' η') : astep C false ops o rest K σ η := by
  intro Q hQ a w ⟨g, ha⟩ K' hK'
  obtain ⟨w', h1, h2⟩ := h g a w ha
  unfold Oper.wp
  rw [h1]
  exact hK' _ _ (hr Q hQ _ _ h2)

theorem absBox {g : Gh} {a : Act} {w : World} (ha : AbsG C g σ η a w) (e : TypeId) (us : Array Value) (cs : List SV) (hd : Nat.blt d C.N = true) (hro : C.ro ≤ η.length) (hl : us.size = cs.length) (h1 : ∀ u ∈ us, u.oneCell' = true)
    (hr : ∀ (j : Nat) (u : Value) (s : SV), us[j]? = some u → cs[j]? = some s → RepS g w u s) :
    Abs C ((d, .ptr η.length 0) :: σ) (η ++ [.box cs]) (a.put (some d) (.pointer (some ⟨w.heap.size, 0, none⟩))) (w.alloc (.cells us e)) := by
  have hn := ha.inv.n
  let g' : Gh := { g with blk := upd g.blk g.n (some w.heap.size), n := g.n + 1 }
  have hold : ∀ id, id < g.n → g'.blk id = g.blk id ∧ g'.cap id = g.cap id ∧ g'.sz id = g.sz id := fun id hid => ⟨by simp [g', upd, Nat.ne_of_lt hid], rfl, rfl⟩
  have hbn : g'.blk g.n = some w.heap.size := by simp [g', upd]
  have kp : Keep g.St w g'.St (w.alloc (.cells us e)) := ⟨fun _ _ h => h, fun b o u hb hu => (World.cell?_of_block (a := ⟨b, o, none⟩) (Below.heap_alloc w _ b (ha.inv.st b o hb))).trans hu, fun b hb => Below.heap_alloc w _ b (ha.inv.st b 0 (hb 0))⟩
  have hab := ha.newOb (g' := g') (w' := w.alloc (.cells us e)) (.box cs) rfl rfl rfl (by simp) (fun k hk => Below.heap_alloc w _ k hk) rfl hold
    (fun id hid => by
      have hne : id ≠ g.n := by omega
      simp only [g', upd, if_neg hne]
      exact ha.inv.dead id (by omega)) (fun b hb => by rw [hbn] at hb; injection hb with hb; subst hb; simp) (fun _ _ h => h) (fun _ _ h => .inl h) (fun b o hb => Nat.lt_of_lt_of_le (ha.inv.st b o hb) (by simp)) (by rw [hn]; exact hro)
    ⟨w.heap.size, e, us, hbn, _root_.Go.heap_alloc_new w _, hl, h1, fun j u s hu hs => (hr j u s hu hs).ext kp hold (by simp [g']), fun o ho => absurd (ha.inv.st _ o ho) (by omega)⟩
  exact ⟨g', hab.put (d := some d) hd ⟨by show η.length < g.n + 1; omega, w.heap.size, by rw [← hn]; exact hbn, rfl⟩⟩

/-- a value is boxed -/
theorem aBox {s : SV} {cs : List SV} (hx : oval σ x = s) (hc : scells s = some cs) (hd : Nat.blt d C.N = true) (hro : Nat.ble C.ro η.length = true) (h : alex C false ops rest K ((d, .ptr η.length 0) :: σ) (η ++ [.box cs]) ) :
    astep C false ops ⟨some d, .box t x, ty, pos, after, gd⟩ rest K σ η := by
  refine estep (fun g a w ha => ?_) h
  have hr := ha.eval x
  rw [hx] at hr
  obtain ⟨h1, h2, h3⟩ := hr.cells hc
  exact ⟨_, _, by simp [execOp, Instr.box, newVar, newRow], absBox ha t (a.eval x).cells cs hd (Nat.le_of_ble_eq_true hro) h1 h2 h3⟩

/-- the zero value's cells -/
def zeroOf (P : Program) (t : TypeId) : Option (List Value) :=
  match P.info? t with
  | some i => match i.zero with
    | some z => match z.cells.all (·.oneCell') with
      | true => some z.cells.toList
      | false => none
    | none => none
  | none => none

/-- a variable is made -/
theorem aAlloc {zs : List Value} (hz : zeroOf C.P t = some zs) (hd : Nat.blt d C.N = true) (hro : Nat.ble C.ro η.length = true) (h : alex C false ops rest K ((d, .ptr η.length 0) :: σ) (η ++ [.box (zs.map cst)])) :
    astep C false ops ⟨some d, .alloc t, ty, pos, after, gd⟩ rest K σ η := by
  refine estep (fun g a w ha => ?_) h
  unfold zeroOf at hz
  split at hz
  · rename_i i hi
    split at hz
    · rename_i z hzz
      split at hz
      · rename_i hall
        injection hz with hz
        subst hz
        refine ⟨_, _, ?_, absBox ha t z.cells _ hd (Nat.le_of_ble_eq_true hro) (by simp) (Array.all_eq_true_iff_forall_mem.1 hall) (fun j u s hu hs => ?_)⟩
        · simp [execOp, Instr.alloc, zeroValue, typeInfo, hi, hzz, newVar, newRow]
        · rw [List.getElem?_map] at hs
          rw [← Array.getElem?_toList] at hu
          rw [hu] at hs
          simp at hs; subst hs; exact RepS.cst g w u
      · cases hz
    · cases hz
  · cases hz

variable {P : Program} {dst : Option Nat}
theorem Y_field_p {f off id o : Nat} (hx : oval σ x = .ptr id o) (hf : fieldOff P t f = some off) : Ylds P η σ ⟨dst, .fieldAddr t x f, ty, pos, after, gd⟩ (.ptr id (o + off)) := by
  refine Ylds.same fun g w a hi h => ?_
  have h1 := h x (by simp [Op.operands]); rw [hx] at h1
  obtain ⟨hid, b, hb, hv⟩ := h1
  unfold fieldOff at hf
  split at hf
  · rename_i fs hfs
    split at hf
    · rename_i fl hfl
      split at hf
      · rename_i i hi'
        split at hf
        · cases hf
        · rename_i hne
          injection hf with hf
          subst hf
          refine ⟨.pointer (some ⟨b, o + fl.offset, none⟩), ?_, hid, b, hb, rfl⟩
          simp [execOp, hv, Instr.fieldAt, run_underlying hfs, hfl, Instr.sureAddr, fieldPlace, sizeOf, typeInfo, hi', hne, Addr.add_lit]
      · cases hf
    · cases hf
  · cases hf

/-- one cell of a box is read -/
theorem Y_load_p {id o n : Nat} {cs : List SV} {s : SV} (hx : oval σ x = .ptr id o) (ht : tyCells P t = some (false, n)) (ho : η[id]? = some (.box cs)) (hs : cs[o]? = some s) : Ylds P η σ ⟨dst, .load t x, ty, pos, after, gd⟩ s := by
  refine Ylds.same fun g w a hi h => ?_
  have h1 := h x (by simp [Op.operands]); rw [hx] at h1
  obtain ⟨hid, b, hb, hv⟩ := h1
  obtain ⟨b', e, us, h2, h3, h4, h5, h6, h7⟩ := hi.ob id _ ho
  rw [hb] at h2; injection h2 with h2; subst h2
  have hlt : o < us.size := by rw [h4]; exact (List.getElem?_eq_some_iff.1 hs).1
  refine ⟨us[o], ?_, h6 o _ _ (Array.getElem?_eq_getElem hlt) hs⟩
  have hc : w.cell? ⟨b, o, none⟩ = some us[o] := by rw [cell_of_row w b o us e (0, 0) h3]; exact Array.getElem?_eq_getElem hlt
  simp [execOp, hv, Instr.loadAt, Instr.sureAddr, loadVar, (tyCells_some ht w).1, hc]

/-- data, cell by cell -/
def toDs : List SV → Option (List D)
  | [] => some []
  | .d d :: r => match toDs r with
    | some ds => some (d :: ds)
    | none => none
  | .nil :: r => match toDs r with
    | some ds => some (.slice [] :: ds)
    | none => none
  | _ :: _ => none

theorem toDs_rep {g : Gh} {w : World} : ∀ {cs : List SV} {ds : List D}, toDs cs = some ds → cs.length = ds.length ∧ ∀ (j : Nat) (u : Value) (s : SV) (d : D), cs[j]? = some s → ds[j]? = some d → RepS g w u s → RepD g.St w u d
  | [], ds, h => by simp [toDs] at h; subst h; exact ⟨rfl, fun j u s d hs => by simp at hs⟩
  | s :: r, ds, h => by
    have nilRep : ∀ {v : Value}, RepS g w v .nil → RepD g.St w v (.slice []) := by
      intro v hv
      change v = _ at hv
      subst hv
      exact .slice none 0 0 0 [] [] rfl (Nat.le_refl _) (Nat.zero_le _) (by simp) rfl (by simp) (by simp) (by simp)
    cases s with
    | d d0 =>
      simp only [toDs] at h
      split at h
      · rename_i ds' hds
        injection h with h; subst h
        obtain ⟨h1, h2⟩ := toDs_rep (g := g) (w := w) hds
        refine ⟨by simp [h1], fun j u s d hs hd hr => ?_⟩
        match j with
        | 0 => simp at hs hd; subst hs; subst hd; exact hr
        | j + 1 => exact h2 j u s d (by simpa using hs) (by simpa using hd) hr
      · cases h
    | nil =>
      simp only [toDs] at h
      split at h
      · rename_i ds' hds
        injection h with h; subst h
        obtain ⟨h1, h2⟩ := toDs_rep (g := g) (w := w) hds
        refine ⟨by simp [h1], fun j u s d hs hd hr => ?_⟩
        match j with
        | 0 => simp at hs hd; subst hs; subst hd; exact nilRep hr
        | j + 1 => exact h2 j u s d (by simpa using hs) (by simpa using hd) hr
      · cases h
    | _ => simp [toDs] at h

/-- a whole struct is read from a box -/
theorem Y_load_pa {id o n : Nat} {cs : List SV} {ds : List D} (hx : oval σ x = .ptr id o) (ht : tyCells P t = some (true, n)) (ho : η[id]? = some (.box cs)) (hl : Nat.ble (o + n) cs.length = true) (hs : toDs ((cs.drop o).take n) = some ds) : Ylds P η σ ⟨dst, .load t x, ty, pos, after, gd⟩ (.d (.agg ds)) := by
  have hl := Nat.le_of_ble_eq_true hl
  refine Ylds.same fun g w a hi h => ?_
  have h1 := h x (by simp [Op.operands]); rw [hx] at h1
  obtain ⟨hid, b, hb, hv⟩ := h1
  obtain ⟨b', e, us, h2, h3, h4, h5, h6, h7⟩ := hi.ob id _ ho
  rw [hb] at h2; injection h2 with h2; subst h2
  have hrun := run_loadCells_list (P := P) w ⟨b, o, none⟩ ((us.toList.drop o).take n) (fun j v hj => by
    rw [List.getElem?_take] at hj
    split at hj
    · rw [Addr.add_lit, cell_of_row w b _ us e (0, 0) h3]
      simpa using hj
    · cases hj)
  have hlen : ((us.toList.drop o).take n).length = n := by rw [List.length_take, List.length_drop, Array.length_toList]; omega
  rw [hlen] at hrun
  obtain ⟨e1, e2⟩ := toDs_rep (g := g) (w := w) hs
  have hcl : ((cs.drop o).take n).length = n := by rw [List.length_take, List.length_drop]; omega
  refine ⟨.agg ((us.toList.drop o).take n).toArray, ?_, .agg _ _ (by omega) (fun u hm => h5 u (Array.mem_toList_iff.1 (List.mem_of_mem_drop (List.mem_of_mem_take hm)))) (fun j u d hj hd => ?_)⟩
  · simp only [execOp, hv, Instr.loadAt, Instr.sureAddr, loadVar, Sem.run_bind, Sem.run_pure, Result.andThen_ok, (tyCells_some ht w).1, (tyCells_some ht w).2, if_true, hrun]
  · have hjl : j < n := by
      have := (List.getElem?_eq_some_iff.1 hj).1; omega
    have hsj : ((cs.drop o).take n)[j]? = some (((cs.drop o).take n)[j]'(by omega)) := List.getElem?_eq_getElem (by omega)
    refine e2 j u _ d hsj hd (h6 (o + j) u _ ?_ ?_)
    · rw [List.getElem?_take, if_pos hjl] at hj; simpa using hj
    · rw [← hsj, List.getElem?_take, if_pos hjl]; simp

theorem aStore {id o n : Nat} {b0 : Bool} {cs vs : List SV} {s : SV} (hx : oval σ x = .ptr id o) (hy : oval σ y = s) (hv : scells s = some vs) (ht : tyCells C.P t = some (b0, n)) (ho : η[id]? = some (.box cs)) (hn : Nat.beq vs.length n = true) (hl : Nat.ble (o + n) cs.length = true) (hro : Nat.ble C.ro id = true)
    (h : alex C false ops rest K σ (η.set id (.box (cs.take o ++ vs ++ cs.drop (o + n))))) : astep C false ops ⟨none, .store t x y, ty, pos, after, gd⟩ rest K σ η := by
  have hl := Nat.le_of_ble_eq_true hl
  have hn := Nat.eq_of_beq_eq_true hn
  refine estep0 (fun g a w ha => ?_) h
  have hp := ha.eval x; rw [hx] at hp
  have hr := ha.eval y; rw [hy] at hr
  obtain ⟨hid, b, hb, hpv⟩ := hp
  obtain ⟨b', e, us, h2, h3, h4, h5, h6, h7⟩ := ha.inv.ob id _ ho
  rw [hb] at h2; injection h2 with h2; subst h2
  obtain ⟨c1, c2, c3⟩ := hr.cells hv
  have hst := run_storeCells_at C.P b o e (a.eval y).cells.toList 0 us w h3 (by rw [Array.length_toList]; omega) (fun v hm => c2 v (by simpa using hm))
  simp only [Nat.add_zero] at hst
  refine ⟨_, ?_, g, ha.setBox ho hb (Nat.le_of_ble_eq_true hro) h3 h7 (us' := (us.toList.take o ++ (a.eval y).cells.toList ++ us.toList.drop (o + (a.eval y).cells.toList.length)).toArray) ?_ ?_ ?_⟩
  · simp only [execOp, hpv, Instr.storeAt, Instr.sureAddr, storeVar, Sem.run_bind, Sem.run_pure, Result.andThen_ok, (tyCells_some ht w).2, c1, hn, ne_eq, not_true, if_false, hst]
  · simp; omega
  · intro u hu
    simp only [List.mem_toArray, List.mem_append] at hu
    rcases hu with (hu | hu) | hu
    · exact h5 u (by simpa using List.mem_of_mem_take hu)
    · exact c2 u (by simpa using hu)
    · exact h5 u (by simpa using List.mem_of_mem_drop hu)
  · intro j u s' hu hs
    have hcl : (a.eval y).cells.toList.length = vs.length := by rw [Array.length_toList]; exact c1
    simp only [List.getElem?_toArray] at hu
    rw [hcl, hn] at hu
    rcases Nat.lt_or_ge j o with hj | hj
    · rw [List.append_assoc, List.getElem?_append_left (by simp; omega), List.getElem?_take, if_pos hj] at hu hs
      exact h6 j u s' (by simpa using hu) hs
    · rw [List.append_assoc, List.getElem?_append_right (by simp; omega)] at hu hs
      have e1 : (us.toList.take o).length = o := by rw [List.length_take, Array.length_toList]; omega
      have e2 : (cs.take o).length = o := by rw [List.length_take]; omega
      rw [e1] at hu; rw [e2] at hs
      rcases Nat.lt_or_ge (j - o) n with hj2 | hj2
      · rw [List.getElem?_append_left (by omega)] at hu hs
        exact c3 (j - o) u s' (by simpa using hu) hs
      · rw [List.getElem?_append_right (by omega)] at hu hs
        rw [hcl, hn] at hu; rw [hn] at hs
        simp only [List.getElem?_drop] at hu hs
        exact h6 (o + n + (j - o - n)) u s' (by simpa using hu) hs
end

end Go.Sx
