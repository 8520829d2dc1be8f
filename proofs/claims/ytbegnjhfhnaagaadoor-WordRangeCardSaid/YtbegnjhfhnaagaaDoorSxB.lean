/- The engine: states of abstract values, one operation, a region whose order is laid down. -/
import Derived.Test.YtbegnjhfhnaagaaDoorSxA
namespace Go.Sx

structure Ctx where
  P : Program
  N : Nat
  w0 : World
  St0 : Stab
  X : Nat → Prop
  ro : Nat

abbrev Sl := List (Nat × SV)

def get : Sl → Nat → SV
  | [], _ => .top
  | (k, s) :: r, t => match Nat.beq k t with
    | true => s
    | false => get r t

def put (σ : Sl) : Option Nat → SV → Sl
  | some d, s => (d, s) :: σ
  | none, _ => σ

def cst : Value → SV
  | .slice none 0 0 => .nil
  | v => .d (.val v)

def oval (σ : Sl) : Operand → SV
  | .tmp t => get σ t
  | .const v => cst v
  | .func f => .clo f []
  | .global _ => .top

theorem get_cons (k : Nat) (s : SV) (r : Sl) (t : Nat) : get ((k, s) :: r) t = if k = t then s else get r t := by
  show (match Nat.beq k t with | true => s | false => get r t) = _
  by_cases h : k = t
  · subst h; simp
  · rw [if_neg h]
    cases h' : Nat.beq k t with
    | false => rfl
    | true => exact absurd (Nat.eq_of_beq_eq_true h') h

structure AbsG (C : Ctx) (g : Gh) (σ : Sl) (η : List Ob) (a : Act) (w : World) : Prop where
  defers : a.defers = []
  size : a.tmps.size = C.N
  inv : Inv g w η
  os : w.os = C.w0.os
  tape : w.tape = C.w0.tape
  output : w.output = C.w0.output
  wsize : C.w0.heap.size ≤ w.heap.size
  heap : ∀ k, k < C.w0.heap.size → ¬ C.X k → w.heap[k]? = C.w0.heap[k]?
  keep : Keep C.St0 C.w0 g.St w
  new : ∀ b o, g.St b o → C.St0 b o ∨ C.w0.heap.size ≤ b ∨ C.X b
  own : ∀ id b, g.blk id = some b → C.ro ≤ id → C.w0.heap.size ≤ b ∨ C.X b
  rep : ∀ t, RepS g w (a.tmps.getD t undef) (get σ t)

def Abs (C : Ctx) (σ : Sl) (η : List Ob) (a : Act) (w : World) : Prop := ∃ g, AbsG C g σ η a w

theorem AbsG.grow {C : Ctx} {g g' : Gh} {σ : Sl} {η : List Ob} {a : Act} {w w' : World} (h : AbsG C g σ η a w) (k : Grow g w g' w') : AbsG C g' σ η a w' where
  defers := h.defers
  size := h.size
  inv := h.inv.grow k
  os := k.os.trans h.os
  tape := k.tape.trans h.tape
  output := k.output.trans h.output
  wsize := Nat.le_trans h.wsize k.size
  heap i hi hx := (k.heap i (Nat.lt_of_lt_of_le hi h.wsize)).trans (h.heap i hi hx)
  keep := h.keep.trans (k.keep h.inv.st)
  new b o hb := by
    rcases k.new b o hb with h1 | h1
    · exact h.new b o h1
    · exact .inr (.inl (Nat.le_trans h.wsize h1))
  own id b hb hr := by rw [k.blk] at hb; exact h.own id b hb hr
  rep t := (h.rep t).grow h.inv.st k

def DstOk (N : Nat) : Option Nat → Prop
  | some d => Nat.blt d N = true
  | none => True

theorem AbsG.put {C : Ctx} {g : Gh} {σ : Sl} {η : List Ob} {a : Act} {w : World} (h : AbsG C g σ η a w) {d : Option Nat} {v : Value} {s : SV} (hd : DstOk C.N d) (hr : RepS g w v s) : AbsG C g (put σ d s) η (a.put d v) w := by
  cases d with
  | none => exact h
  | some d =>
    have hlt : d < C.N := by simpa [DstOk, Nat.blt_eq] using hd
    refine ⟨h.defers, by simpa [Act.put] using h.size, h.inv, h.os, h.tape, h.output, h.wsize, h.heap, h.keep, h.new, h.own, fun t => ?_⟩
    have hs := h.size
    show RepS g w ((a.tmps.setIfInBounds d v).getD t undef) (get ((d, s) :: σ) t)
    rw [get_cons]
    by_cases e : d = t
    · subst e; rw [if_pos rfl]; simpa [hs, hlt] using hr
    · rw [if_neg e]
      have := h.rep t
      simpa [Array.getElem?_setIfInBounds_ne e] using this

theorem RepS.cst (g : Gh) (w : World) (v : Value) : RepS g w v (cst v) := by
  unfold Sx.cst
  split
  · rfl
  · exact .val _

theorem AbsG.eval {C : Ctx} {g : Gh} {σ : Sl} {η : List Ob} {a : Act} {w : World} (h : AbsG C g σ η a w) (x : Operand) : RepS g w (a.eval x) (oval σ x) := by
  cases x with
  | tmp t => exact h.rep t
  | const v => exact RepS.cst g w v
  | func f => exact ⟨[], rfl, rfl, fun j id u hj => by simp at hj⟩
  | global g => trivial

/-- What operation o yields, where its operands are so. -/
def Ylds (P : Program) (η : List Ob) (σ : Sl) (o : Oper) (s : SV) : Prop :=
  ∀ (g : Gh) (w : World) (a : Act), Inv g w η → (∀ x ∈ o.op.operands, RepS g w (a.eval x) (oval σ x)) →
    (∃ v g' w', (execOp a.eval o).run P w = .ok (.value v) w' ∧ Grow g w g' w' ∧ RepS g' w' v s) ∨
    (∃ f args, (execOp a.eval o).run P w = .ok (.enter f args) w ∧ Calls P f args w (fun e w' => ∃ v g', e = .returned v ∧ Grow g w g' w' ∧ RepS g' w' v s))

theorem Ylds.same {P : Program} {η : List Ob} {σ : Sl} {o : Oper} {s : SV}
    (h : ∀ (g : Gh) (w : World) (a : Act), Inv g w η → (∀ x ∈ o.op.operands, RepS g w (a.eval x) (oval σ x)) → ∃ v, (execOp a.eval o).run P w = .ok (.value v) w ∧ RepS g w v s) : Ylds P η σ o s :=
  fun g w a hi hx => let ⟨v, h1, h2⟩ := h g w a hi hx; .inl ⟨v, g, w, h1, Grow.refl hi.st, h2⟩

/-- Is the guard met (b), or not? -/
def Wants (ops : Array Oper) (σ : Sl) (gd : Option (Nat × Bool)) (b : Bool) : Prop :=
  match gd with
  | none => b = true
  | some (j, want) => ∃ t, (ops[j]?).bind (·.dst) = some t ∧ get σ t = .d (.val (.bool (if b then want else !want)))

theorem Wants.wanted {ops : Array Oper} {σ : Sl} {o : Oper} {b : Bool} {tmps : Array Value} {g : Gh} {w : World} (h : Wants ops σ o.guard b) (hr : ∀ t, (∀ j q, o.guard = some (j, q) → (ops[j]?).bind (·.dst) = some t → RepS g w (tmps.getD t undef) (get σ t))) :
    Region.wanted o (yielded ops tmps) = b := by
  unfold Wants at h
  unfold Region.wanted
  cases hg : o.guard with
  | none => rw [hg] at h; exact h.symm
  | some q =>
    obtain ⟨j, want⟩ := q
    rw [hg] at h
    obtain ⟨t, ht, hv⟩ := h
    have := hr t j want hg ht
    rw [hv] at this
    have hv2 := RepD.val_eq this
    have hlt : t < tmps.size := by
      rcases Nat.lt_or_ge t tmps.size with h1 | h1
      · exact h1
      · rw [Array.getD_eq_getD_getElem?, Array.getElem?_eq_none h1] at hv2; cases hv2
    have : tmps[t]? = some (.bool (if b then want else !want)) := by
      rw [Array.getD_eq_getD_getElem?, Array.getElem?_eq_getElem hlt] at hv2
      rw [Array.getElem?_eq_getElem hlt]
      simpa using hv2
    simp only [yielded, ht, Option.bind_some, this]
    cases b <;> cases want <;> rfl

/-! ### A region whose order is laid down -/

def alexE (C : Ctx) (ops : Array Oper) (l : List Oper) (K : Sl → List Ob → Prop) (σ : Sl) (η : List Ob) : Prop :=
  ∀ (Q : Exit → Act → World → Prop), (∀ σ' η' a w, K σ' η' → Abs C σ' η' a w → Q .normal a w) → ∀ a w, Abs C σ η a w → wpList C.P ops Q l a w

theorem Ylds.wp {C : Ctx} {η : List Ob} {σ : Sl} {o : Oper} {s : SV} (hy : Ylds C.P η σ o s) (hd : DstOk C.N o.dst) {Q : Exit → Act → World → Prop} {K : Act → World → Prop}
    (hK : ∀ a w, Abs C (put σ o.dst s) η a w → K a w) {a : Act} {w : World} {g : Gh} (h : AbsG C g σ η a w) : o.wp C.P a w K Q := by
  unfold Oper.wp
  rcases hy g w a h.inv (fun x _ => h.eval x) with ⟨v, g', w', hr, hg, hs⟩ | ⟨f, args, hr, hc⟩
  · rw [hr]
    exact hK _ _ ⟨g', (h.grow hg).put hd hs⟩
  · rw [hr]
    rw [Oper.upon_enter]
    refine hc.mono fun e w' ⟨v, g', he, hg, hs⟩ => ?_
    subst he
    exact hK _ _ ⟨g', (h.grow hg).put hd hs⟩

theorem alexE_step {C : Ctx} {ops : Array Oper} {o : Oper} {rest : List Oper} {K : Sl → List Ob → Prop} {σ : Sl} {η : List Ob} {s : SV}
    (hw : Wants ops σ o.guard true) (hy : Ylds C.P η σ o s) (hd : DstOk C.N o.dst) (h : alexE C ops rest K (put σ o.dst s) η) : alexE C ops (o :: rest) K σ η := by
  intro Q hQ a w ⟨g, ha⟩
  refine wpList_step fun K' hK' => ?_
  rw [if_pos (hw.wanted fun t _ _ _ _ => ha.rep t)]
  exact hy.wp hd (fun a w hab => hK' a w (h Q hQ a w hab)) ha

theorem alexE_skip {C : Ctx} {ops : Array Oper} {o : Oper} {rest : List Oper} {K : Sl → List Ob → Prop} {σ : Sl} {η : List Ob}
    (hw : Wants ops σ o.guard false) (hd : DstOk C.N o.dst) (h : alexE C ops rest K (put σ o.dst .top) η) : alexE C ops (o :: rest) K σ η := by
  intro Q hQ a w ⟨g, ha⟩
  refine wpList_step fun K' hK' => ?_
  rw [if_neg (by rw [hw.wanted fun t _ _ _ _ => ha.rep t]; simp)]
  exact hK' _ _ (h Q hQ _ w ⟨g, ha.put hd trivial⟩)

theorem AbsG.get_eq {C : Ctx} {g : Gh} {σ σ' : Sl} {η : List Ob} {a : Act} {w : World} (h : AbsG C g σ η a w) (e : ∀ t, get σ' t = get σ t ∨ get σ' t = .top) : AbsG C g σ' η a w :=
  ⟨h.defers, h.size, h.inv, h.os, h.tape, h.output, h.wsize, h.heap, h.keep, h.new, h.own, fun t => by
    rcases e t with e | e
    · rw [e]; exact h.rep t
    · rw [e]; trivial⟩

/-- σ' says no more than σ -/
def Le (σ' σ : Sl) : Prop := ∀ t, get σ' t = get σ t ∨ get σ' t = .top

theorem Le.refl (σ : Sl) : Le σ σ := fun _ => .inl rfl

theorem Abs.le {C : Ctx} {σ σ' : Sl} {η : List Ob} {a : Act} {w : World} (h : Abs C σ η a w) (e : Le σ' σ) : Abs C σ' η a w := let ⟨g, h⟩ := h; ⟨g, h.get_eq e⟩

/-! ### A region that draws its order: its operations leave the objects as they are -/

def alexD (C : Ctx) (η : List Ob) (ops : Array Oper) : List Oper → (Sl → Prop) → Sl → Prop
  | [], K, σ => ∃ σ', K σ' ∧ Le σ' σ
  | o :: rest, K, σ => ∃ s, ((Wants ops σ o.guard true ∧ Ylds C.P η σ o s) ∨ (Wants ops σ o.guard false ∧ s = .top)) ∧ DstOk C.N o.dst ∧ alexD C η ops rest K (put σ o.dst s)

theorem oval_congr {σ σ' : Sl} (e : ∀ t, get σ' t = get σ t) (x : Operand) : oval σ' x = oval σ x := by
  cases x <;> simp [oval, e]

theorem put_congr {σ σ' : Sl} (e : ∀ t, get σ' t = get σ t) (d : Option Nat) (s : SV) (t : Nat) : get (put σ' d s) t = get (put σ d s) t := by
  cases d with
  | none => exact e t
  | some d => simp [put, get_cons, e]

theorem Wants.congr {ops : Array Oper} {σ σ' : Sl} {gd : Option (Nat × Bool)} {b : Bool} (e : ∀ t, get σ' t = get σ t) (h : Wants ops σ gd b) : Wants ops σ' gd b := by
  unfold Wants at *
  split at h
  · exact h
  · obtain ⟨t, h1, h2⟩ := h
    exact ⟨t, h1, (e t).trans h2⟩

theorem Ylds.congr {P : Program} {η : List Ob} {σ σ' : Sl} {o : Oper} {s : SV} (e : ∀ x ∈ o.op.operands, oval σ' x = oval σ x) (h : Ylds P η σ o s) : Ylds P η σ' o s :=
  fun g w a hi hx => h g w a hi (fun x hm => by rw [← e x hm]; exact hx x hm)

theorem alexD_congr {C : Ctx} {η : List Ob} {ops : Array Oper} {K : Sl → Prop} : ∀ (l : List Oper) (σ σ' : Sl), (∀ t, get σ' t = get σ t) → alexD C η ops l K σ → alexD C η ops l K σ'
  | [], _, _, e, ⟨τ, h1, h2⟩ => ⟨τ, h1, fun t => by rw [e t]; exact h2 t⟩
  | o :: l, σ, σ', e, ⟨s, h1, h2, h3⟩ => by
    refine ⟨s, ?_, h2, alexD_congr l _ _ (put_congr e o.dst s) h3⟩
    rcases h1 with ⟨h1, h4⟩ | ⟨h1, h4⟩
    · exact .inl ⟨h1.congr e, h4.congr fun x _ => oval_congr e x⟩
    · exact .inr ⟨h1.congr e, h4⟩

def alex (C : Ctx) (dr : Bool) (ops : Array Oper) (l : List Oper) (K : Sl → List Ob → Prop) (σ : Sl) (η : List Ob) : Prop :=
  match dr with
  | true => alexD C η ops l (fun σ => K σ η) σ
  | false => alexE C ops l K σ η

section
variable {C : Ctx} {dr : Bool} {ops : Array Oper} {o : Oper} {rest : List Oper} {K : Sl → List Ob → Prop} {σ : Sl} {η : List Ob}
theorem alex_nil (h : K σ η) : alex C dr ops [] K σ η := by
  cases dr with
  | true => exact ⟨σ, h, Le.refl σ⟩
  | false => exact fun Q hQ a w hab => hQ σ η a w h hab
theorem alex_stepW {s : SV} (hw : Wants ops σ o.guard true) (hy : Ylds C.P η σ o s) (hd : DstOk C.N o.dst) (h : alex C dr ops rest K (put σ o.dst s) η) : alex C dr ops (o :: rest) K σ η := by
  cases dr with
  | true => exact ⟨s, .inl ⟨hw, hy⟩, hd, h⟩
  | false => exact alexE_step hw hy hd h
theorem alex_skipW (hw : Wants ops σ o.guard false) (hd : DstOk C.N o.dst) (h : alex C dr ops rest K (put σ o.dst .top) η) : alex C dr ops (o :: rest) K σ η := by
  cases dr with
  | true => exact ⟨.top, .inr ⟨hw, rfl⟩, hd, h⟩
  | false => exact alexE_skip hw hd h
theorem get_self {σ : Sl} {t : Nat} {s : SV} (h : get σ t = s) (u : Nat) : get ((t, s) :: σ) u = get σ u := by
  rw [get_cons]; split
  · rename_i e; subst e; exact h.symm
  · rfl
theorem alex_split {l : List Oper} (t : Nat) {b : Bool} (hg : get σ t = .d (.val (.bool b))) (h1 : b = true → alex C dr ops l K ((t, .d (.val (.bool true))) :: σ) η) (h2 : b = false → alex C dr ops l K ((t, .d (.val (.bool false))) :: σ) η) : alex C dr ops l K σ η := by
  have key : ∀ b, get σ t = .d (.val (.bool b)) → alex C dr ops l K ((t, .d (.val (.bool b))) :: σ) η → alex C dr ops l K σ η := by
    intro b hb h
    cases dr with
    | true => exact alexD_congr l _ _ (fun u => (get_self hb u).symm) h
    | false => exact fun Q hQ a w hab => h Q hQ a w (hab.le fun u => .inl (get_self hb u))
  cases b with
  | true => exact key true hg (h1 rfl)
  | false => exact key false hg (h2 rfl)
end

/-! ### The code -/

def awp (C : Ctx) (c : Code) (Q : Exit → Sl → List Ob → Prop) (σ : Sl) (η : List Ob) : Prop :=
  ∀ (R : Exit → Act → World → Prop), (∀ e σ' η' a w, Q e σ' η' → Abs C σ' η' a w → R e a w) → ∀ a w, Abs C σ η a w → c.wp C.P R a w

def athen (K : Sl → List Ob → Prop) (Q : Exit → Sl → List Ob → Prop) : Exit → Sl → List Ob → Prop
  | .normal, σ, η => K σ η
  | e, σ, η => Q e σ η

def ablock (id : Nat) (Q : Exit → Sl → List Ob → Prop) : Exit → Sl → List Ob → Prop
  | .exit id', σ, η => if id' = id then Q .normal σ η else Q (.exit id') σ η
  | e, σ, η => Q e σ η

section
variable {C : Ctx} {Q : Exit → Sl → List Ob → Prop} {σ : Sl} {η : List Ob}
theorem awp_skip (h : Q .normal σ η) : awp C .skip Q σ η := fun _R hR _a _w hab => wp_skip (hR _ _ _ _ _ h hab)
theorem awp_label {l : Nat} (h : Q .normal σ η) : awp C (.label l) Q σ η := fun _R hR _a _w hab => wp_label (hR _ _ _ _ _ h hab)
theorem awp_exit {id : Nat} (h : Q (.exit id) σ η) : awp C (.exit id) Q σ η := fun _R hR _a _w hab => wp_exit (hR _ _ _ _ _ h hab)
theorem awp_goto {id : Nat} (h : Q (.goto id) σ η) : awp C (.goto id) Q σ η := fun _R hR _a _w hab => wp_goto (hR _ _ _ _ _ h hab)
theorem awp_ret (h : Q .ret σ η) : awp C .ret Q σ η := fun _R hR _a _w hab => wp_ret (hR _ _ _ _ _ h hab)
theorem awp_seq {x y : Code} (h : awp C x (athen (awp C y Q) Q) σ η) : awp C (.seq x y) Q σ η := by
  intro R hR a w hab
  refine wp_seq (h _ (fun e σ' η' a' w' hq hab' => ?_) a w hab)
  cases e <;> first | exact hq R hR a' w' hab' | exact hR _ _ _ _ _ hq hab'
theorem awp_block {id : Nat} {c : Code} (h : awp C c (ablock id Q) σ η) : awp C (.block id c) Q σ η := by
  intro R hR a w hab
  refine wp_block (h _ (fun e σ' η' a' w' hq hab' => ?_) a w hab)
  cases e with
  | exit id' =>
    simp only [ablock] at hq
    simp only [Exit.inBlock]
    split
    · rename_i h0; rw [if_pos h0] at hq; exact hR _ _ _ _ _ hq hab'
    · rename_i h0; rw [if_neg h0] at hq; exact hR _ _ _ _ _ hq hab'
  | _ => exact hR _ _ _ _ _ hq hab'
theorem awp_cond {x : Operand} {c d : Code} {b : Bool} (hx : oval σ x = .d (.val (.bool b))) (h1 : b = true → awp C c Q σ η) (h2 : b = false → awp C d Q σ η) : awp C (.cond x c d) Q σ η := by
  intro R hR a w hab
  obtain ⟨g, hg⟩ := hab
  have := hg.eval x
  rw [hx] at this
  have e := RepD.val_eq this
  exact wp_cond_split e (fun hb => h1 hb R hR a w ⟨g, hg⟩) (fun hb => h2 hb R hR a w ⟨g, hg⟩)
theorem awp_region {id : Nat} {l : List Oper} (h : alex C false l.toArray l (Q .normal) σ η) : awp C (.region id l.toArray false) Q σ η :=
  fun R hR a w hab => wp_region_lit (h R (fun _σ' _η' _a' _w' hq hab' => hR _ _ _ _ _ hq hab') a w hab)
theorem awp_mono {c : Code} {Q' : Exit → Sl → List Ob → Prop} (hq : ∀ e σ η, Q e σ η → Q' e σ η) (h : awp C c Q σ η) : awp C c Q' σ η :=
  fun R hR a w hab => h R (fun _ _ _ _ _ q hab' => hR _ _ _ _ _ (hq _ _ _ q) hab') a w hab
theorem awp_le {c : Code} {σ' : Sl} (e : Le σ' σ) (h : awp C c Q σ' η) : awp C c Q σ η := fun R hR a w hab => h R hR a w (hab.le e)
end

/-- one round; I: what holds at its head, for some parameter x; μ: what goes down -/
theorem awp_loop' {C : Ctx} {c : Code} {Q : Exit → Sl → List Ob → Prop} {α : Type} (I : α → Prop) (s : α → Sl) (h : α → List Ob) (μ : α → Nat) (x0 : α)
    (h0 : I x0)
    (round : ∀ x, I x → awp C c (athen (fun σ' η' => ∃ y, I y ∧ μ y < μ x ∧ s y = σ' ∧ h y = η') Q) (s x) (h x)) : awp C (.loop c) Q (s x0) (h x0) := by
  intro R hR a w hab
  have key : ∀ (n : Nat) (x : α), μ x = n → I x → ∀ a w, Abs C (s x) (h x) a w → ∀ b k cs, ∃ e a' w', R e a' w' ∧ Arrives C.P (lone (b.at a (.code c :: .inLoop c :: k)) cs w) b k cs e a' w' := by
    intro n
    induction n using Nat.strongRecOn with
    | _ n ih =>
      intro x hn hI a w hab b k cs
      have hr := round x hI (Exit.then (fun a' w' => ∃ y, I y ∧ μ y < μ x ∧ Abs C (s y) (h y) a' w') R) (fun e σ' η' a' w' hq hab' => by
        cases e with
        | normal => obtain ⟨y, h1, h2, h3, h4⟩ := hq; subst h3; subst h4; exact ⟨y, h1, h2, hab'⟩
        | _ => exact hR _ _ _ _ _ hq hab') a w hab
      obtain ⟨e, a₁, w₁, hq, harr⟩ := hr b (.inLoop c :: k) cs
      cases e with
      | normal =>
        obtain ⟨y, h1, h2, h3⟩ := hq
        obtain ⟨e₂, a₂, w₂, hq₂, harr₂⟩ := ih (μ y) (hn ▸ h2) y rfl h1 a₁ w₁ h3 b k cs
        exact ⟨e₂, a₂, w₂, hq₂, .of_steps (Steps.trans harr (.one step_inLoop)) harr₂⟩
      | exit id => exact ⟨_, a₁, w₁, hq, .pass (x := .inLoop c) rfl (fun _ _ => .inl (by simp)) harr⟩
      | goto l => exact ⟨_, a₁, w₁, hq, .pass (x := .inLoop c) rfl (fun _ _ => .inl (by simp)) harr⟩
      | ret => exact ⟨_, a₁, w₁, hq, .pass (x := .inLoop c) rfl (fun _ _ => .inl (by simp)) harr⟩
      | panic ch => exact ⟨_, a₁, w₁, hq, .pass (x := .inLoop c) rfl (fun _ _ => .inl (by simp)) harr⟩
      | outgrown => exact ⟨_, a₁, w₁, hq, .pass (x := .inLoop c) rfl (fun _ _ => .inl (by simp)) harr⟩
  intro b k cs
  obtain ⟨e, a', w', hq, harr⟩ := key _ x0 rfl h0 a w hab b k cs
  exact ⟨e, a', w', hq, .of_steps (.one step_loop) harr⟩

/-- a scope in which one label is jumped to -/
def ajump (l : Nat) (J : Sl → List Ob → Prop) (Q : Exit → Sl → List Ob → Prop) : Exit → Sl → List Ob → Prop
  | .goto l', σ, η => l' = l ∧ J σ η
  | e, σ, η => Q e σ η

theorem awp_scope' {C : Ctx} {c rest : Code} {Q : Exit → Sl → List Ob → Prop} {σ : Sl} {η : List Ob} {α : Type} (l : Nat) (hf : findLabel c l = some rest) (I : α → Prop) (s : α → Sl) (h : α → List Ob) (μ : α → Nat)
    (first : awp C c (ajump l (fun σ' η' => ∃ y, I y ∧ s y = σ' ∧ h y = η') Q) σ η)
    (pass : ∀ x, I x → awp C rest (ajump l (fun σ' η' => ∃ y, I y ∧ μ y < μ x ∧ s y = σ' ∧ h y = η') Q) (s x) (h x)) : awp C (.scope c) Q σ η := by
  intro R hR a w hab
  have hg : ∀ k, gotoIn l (.inScope c :: k) = some (.code rest :: .inScope c :: k) := fun k => by simp [gotoIn, hf]
  have key : ∀ (n : Nat) (x : α), μ x = n → I x → ∀ a w, Abs C (s x) (h x) a w → ∀ b k cs, ∃ e a' w', R e a' w' ∧ Arrives C.P (lone (b.at a (.code rest :: .inScope c :: k)) cs w) b k cs e a' w' := by
    intro n
    induction n using Nat.strongRecOn with
    | _ n ih =>
      intro x hn hI a w hab b k cs
      have hr := pass x hI (fun e a' w' => match e with | .goto l' => l' = l ∧ ∃ y, I y ∧ μ y < μ x ∧ Abs C (s y) (h y) a' w' | e => R e a' w') (fun e σ' η' a' w' hq hab' => by
        cases e with
        | goto l' => obtain ⟨e1, y, h1, h2, h3, h4⟩ := hq; subst h3; subst h4; exact ⟨e1, y, h1, h2, hab'⟩
        | _ => exact hR _ _ _ _ _ hq hab') a w hab
      obtain ⟨e, a₁, w₁, hq, harr⟩ := hr b (.inScope c :: k) cs
      cases e with
      | normal => exact ⟨.normal, a₁, w₁, hq, Steps.trans harr (.one step_inScope)⟩
      | exit id => exact ⟨.exit id, a₁, w₁, hq, fun k' hk => harr k' (by simp [exitTo, hk])⟩
      | goto l' =>
        obtain ⟨rfl, y, h1, h2, h3⟩ := hq
        obtain ⟨e₂, a₂, w₂, hq₂, harr₂⟩ := ih (μ y) (hn ▸ h2) y rfl h1 a₁ w₁ h3 b k cs
        exact ⟨e₂, a₂, w₂, hq₂, .of_steps (harr _ (hg k)) harr₂⟩
      | ret => exact ⟨_, a₁, w₁, hq, harr⟩
      | panic ch => exact ⟨_, a₁, w₁, hq, harr⟩
      | outgrown => exact ⟨_, a₁, w₁, hq, harr⟩
  have hf' := first (fun e a' w' => match e with | .goto l' => l' = l ∧ ∃ y, I y ∧ Abs C (s y) (h y) a' w' | e => R e a' w') (fun e σ' η' a' w' hq hab' => by
    cases e with
    | goto l' => obtain ⟨e1, y, h1, h3, h4⟩ := hq; subst h3; subst h4; exact ⟨e1, y, h1, hab'⟩
    | _ => exact hR _ _ _ _ _ hq hab') a w hab
  intro b k cs
  obtain ⟨e, a₁, w₁, hq, harr⟩ := hf' b (.inScope c :: k) cs
  cases e with
  | normal => exact ⟨.normal, a₁, w₁, hq, .head step_scope (Steps.trans harr (.one step_inScope))⟩
  | exit id => exact ⟨.exit id, a₁, w₁, hq, fun k' hk => .head step_scope (harr k' (by simp [exitTo, hk]))⟩
  | goto l' =>
    obtain ⟨rfl, y, h1, h2⟩ := hq
    obtain ⟨e₂, a₂, w₂, hq₂, harr₂⟩ := key _ y rfl h1 a₁ w₁ h2 b k cs
    exact ⟨e₂, a₂, w₂, hq₂, .of_steps (.head step_scope (harr _ (hg k))) harr₂⟩
  | ret => exact ⟨_, a₁, w₁, hq, .of_steps (.one step_scope) harr⟩
  | panic ch => exact ⟨_, a₁, w₁, hq, .of_steps (.one step_scope) harr⟩
  | outgrown => exact ⟨_, a₁, w₁, hq, .of_steps (.one step_scope) harr⟩

end Go.Sx
