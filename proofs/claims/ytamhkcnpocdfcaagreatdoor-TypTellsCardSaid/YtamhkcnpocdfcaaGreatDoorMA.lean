/- Texts of this claim, merged: SxA, SxB, SxC, SxD, SxE, SxF, SxG, SxH, SxI, SxJ, SxK, SxL, SxM, SxN, SxO, SxP. -/
import Derived.WalkKit
import Derived.Below
import Derived.ScopeJumps
import Derived.Still
import Derived.Maps.AppendAt
import Derived.Deep.Slices
import Derived.Lib.ItoaNum
import Derived.Lib.Space
import Derived.Great.BuildSlice
import Derived.Laws.MakeOwn
import Derived.Lib.AppendZeros
import Derived.Laws.Tables
/- An engine of this claim's own: abstract values, what they say of memory, and how that is kept. Nothing here speaks of one program. -/
namespace Go.Sx

/-- pure data: what a value reads as; lists are what memory holds, and stay -/
inductive D where
  | val (v : Value)
  | agg (cs : List D)
  | slice (xs : List D)
  | tup (ds : List D)
  deriving Inhabited

/-- the cells of a datum -/
def D.flat : D → List D
  | .agg cs => cs
  | d => [d]

def flats (xs : List D) : List D := xs.flatMap D.flat

/-- what memory is stable -/
abbrev Stab := Nat → Nat → Prop

def Cell (St : Stab) (w : World) (ad : Addr) (j : Nat) (u : Value) : Prop := St ad.block (ad.off + j) ∧ w.cell? (ad.add j) = some u

inductive RepD (St : Stab) (w : World) : Value → D → Prop
  | val (v : Value) : RepD St w v (.val v)
  | agg (vs : List Value) (cs : List D) (hl : vs.length = cs.length) (h1 : ∀ u ∈ vs, u.oneCell' = true)
      (h : ∀ (j : Nat) (u : Value) (d : D), vs[j]? = some u → cs[j]? = some d → RepD St w u d) : RepD St w (.agg vs.toArray) (.agg cs)
  | tup (vs : List Value) (cs : List D) (hl : vs.length = cs.length)
      (h : ∀ (j : Nat) (u : Value) (d : D), vs[j]? = some u → cs[j]? = some d → RepD St w u d) : RepD St w (.tuple vs.toArray) (.tup cs)
  | slice (a : Option Addr) (len cap sz : Nat) (xs : List D) (us : List Value)
      (hlen : len = xs.length) (hcap : len ≤ cap) (hm : cap ≤ maxLen)
      (hsz : ∀ x ∈ xs, x.flat.length = sz)
      (hus : us.length = (flats xs).length) (h1 : ∀ u ∈ us, u.oneCell' = true)
      (hcell : 0 < xs.length → ∃ ad, a = some ad ∧ ∀ (j : Nat) (u : Value), us[j]? = some u → Cell St w ad j u)
      (h : ∀ (j : Nat) (u : Value) (d : D), us[j]? = some u → (flats xs)[j]? = some d → RepD St w u d) : RepD St w (.slice a len cap) (.slice xs)

/-- the stable cells stay, and more may come -/
structure Keep (St : Stab) (w : World) (St' : Stab) (w' : World) : Prop where
  sub : ∀ b o, St b o → St' b o
  cell : ∀ b o u, St b o → w.cell? ⟨b, o, none⟩ = some u → w'.cell? ⟨b, o, none⟩ = some u
  blk : ∀ b, (∀ o, St b o) → w'.heap[b]? = w.heap[b]?

theorem Keep.refl (St : Stab) (w : World) : Keep St w St w := ⟨fun _ _ h => h, fun _ _ _ _ h => h, fun _ _ => rfl⟩
theorem Keep.trans {A B C : Stab} {a b c : World} (h : Keep A a B b) (k : Keep B b C c) : Keep A a C c :=
  ⟨fun _x _o hx => k.sub _ _ (h.sub _ _ hx), fun _x _o _u hx hu => k.cell _ _ _ (h.sub _ _ hx) (h.cell _ _ _ hx hu), fun b hb => (k.blk b fun o => h.sub b o (hb o)).trans (h.blk b hb)⟩

theorem cell_spot {w : World} {a : Addr} {u : Value} (h : w.cell? a = some u) : a.spot = none := by
  unfold World.cell? at h
  split at h
  · split at h
    · cases h
    · rename_i hs; simpa using hs
  · cases h

theorem cell_addr {w : World} {ad : Addr} {j : Nat} {u : Value} (h : w.cell? (ad.add j) = some u) : ad.add j = ⟨ad.block, ad.off + j, none⟩ := by
  have hs := cell_spot h
  unfold Addr.add at hs ⊢
  split at hs
  · rename_i h0; subst h0; cases ad; simp at hs ⊢; exact hs
  · rename_i h0; simp [h0]

theorem Cell.keep {St St' : Stab} {w w' : World} {ad : Addr} {j : Nat} {u : Value} (k : Keep St w St' w') (h : Cell St w ad j u) : Cell St' w' ad j u := by
  refine ⟨k.sub _ _ h.1, ?_⟩
  have e := cell_addr h.2
  have h2 := h.2
  rw [e] at h2 ⊢
  exact k.cell _ _ _ h.1 h2

theorem RepD.keep {St St' : Stab} {w w' : World} {v : Value} {d : D} (k : Keep St w St' w') (h : RepD St w v d) : RepD St' w' v d := by
  induction h with
  | val v => exact .val v
  | agg vs cs hl h1 _ ih => exact .agg vs cs hl h1 ih
  | tup vs cs hl _ ih => exact .tup vs cs hl ih
  | slice a len cap sz xs us hlen hcap hm hsz hus h1 hcell _ ih =>
    refine .slice a len cap sz xs us hlen hcap hm hsz hus h1 (fun h0 => ?_) ih
    obtain ⟨ad, ha, hc⟩ := hcell h0
    exact ⟨ad, ha, fun j u hu => (hc j u hu).keep k⟩

theorem RepD.val_eq {St : Stab} {w : World} {v u : Value} (h : RepD St w v (.val u)) : v = u := by cases h; rfl

/-! ### What lies in memory from the beginning (tables of variables) -/
/-- the tables of the program's variables lie in memory as start-up code laid them, and stay -/
def Glob (St : Stab) (w : World) : Prop :=
  (∀ k, k < 7 → ∀ o, St k o) ∧ (∃ (m : Int) (e : TypeId) (t : Nat × Nat), w.heap[5]? = some (.cells #[.int .i64 m] e t)) ∧
  (∃ (e : TypeId) (t : Nat × Nat), w.heap[0]? = some (.cells (Lib.pow10Tab.map fun z => Value.int .u64 z).toArray e t)) ∧
  ∃ (e : TypeId) (t : Nat × Nat), w.heap[1]? = some (.cells (Lib.asciiSpaceTab.map fun z => Value.int .u8 z).toArray e t)
theorem Glob.keep {St St' : Stab} {w w' : World} (h : Glob St w) (k : Keep St w St' w') : Glob St' w' := by
  obtain ⟨h1, ⟨m, e, t, h2⟩, ⟨e3, t3, h3⟩, e4, t4, h4⟩ := h
  exact ⟨fun i hi o => k.sub _ _ (h1 i hi o), ⟨m, e, t, (k.blk 5 (h1 5 (by omega))).trans h2⟩, ⟨e3, t3, (k.blk 0 (h1 0 (by omega))).trans h3⟩, e4, t4, (k.blk 1 (h1 1 (by omega))).trans h4⟩
/-! ### What a slot holds, and objects of the call's own -/

inductive SV where
  | d (d : D)
  | nil
  | ptr (id off : Nat)
  | rptr (cs : List D)
  | bptr (id i off : Nat)
  | buf (id n : Nat)
  | clo (f : FuncId) (ids : List Nat)
  | mp (id : Nat)
  | pair (a b : SV)
  | p (φ : Value → Prop)
  | top
  deriving Inhabited

inductive Ob where
  | bx (k : Option Nat) (et : Option TypeId) (cs : List SV)
  | buf (mu : Bool) (e : TypeId) (sz : Nat) (xs : List D)
  | iter (s : ByteArray) (pos : Nat)
  | map (k : Option Nat) (l : List (Value × D))
  | miter (m since : Nat) (seen : List Nat) (st : Nat)
  | gone
  deriving Inhabited

/-- a box; where it lies, and of what type it is, is not said -/
abbrev Ob.box (cs : List SV) : Ob := .bx none none cs

structure Gh where
  St : Stab
  blk : Nat → Option Nat
  cap : Nat → Nat
  sz : Nat → Nat
  n : Nat

def RepS (g : Gh) (w : World) (v : Value) : SV → Prop
  | .d d => RepD g.St w v d
  | .nil => v = .slice none 0 0
  | .ptr id off => id < g.n ∧ ∃ b, g.blk id = some b ∧ v = .pointer (some ⟨b, off, none⟩)
  | .rptr cs => ∃ (ad : Addr) (us : List Value), v = .pointer (some ad) ∧ us.length = cs.length ∧ (∀ u ∈ us, u.oneCell' = true) ∧
      (∀ (j : Nat) (u : Value), us[j]? = some u → Cell g.St w ad j u) ∧ ∀ (j : Nat) (u : Value) (d : D), us[j]? = some u → cs[j]? = some d → RepD g.St w u d
  | .bptr id i off => id < g.n ∧ ∃ b, g.blk id = some b ∧ v = .pointer (some ⟨b, i * g.sz id + off, none⟩)
  | .buf id n => id < g.n ∧ v = .slice ((g.blk id).map (⟨·, 0, none⟩)) n (g.cap id)
  | .clo f ids => ∃ vs : List Value, v = .func (.func f) #[] vs.toArray ∧ vs.length = ids.length ∧
      ∀ (j id : Nat) (u : Value), ids[j]? = some id → vs[j]? = some u → id < g.n ∧ ∃ b, g.blk id = some b ∧ u = .pointer (some ⟨b, 0, none⟩)
  | .mp id => id < g.n ∧ ∃ b, g.blk id = some b ∧ v = .map (some b)
  | .pair a b => ∃ u1 u2, v = .tuple #[u1, u2] ∧ RepS g w u1 a ∧ RepS g w u2 b
  | .p φ => φ v
  | .top => True

/-- an object, as memory has it -/
def ObOk (g : Gh) (w : World) (id : Nat) : Ob → Prop
  | .bx k et cs => ∃ b e us, g.blk id = some b ∧ w.heap[b]? = some (.cells us e (0, 0)) ∧ us.size = cs.length ∧ (∀ u ∈ us, u.oneCell' = true) ∧
      (∀ (j : Nat) (u : Value) (s : SV), us[j]? = some u → cs[j]? = some s → RepS g w u s) ∧ (∀ o, ¬ g.St b o) ∧ (∀ c, k = some c → c = b) ∧ ∀ t, et = some t → t = e
  | .buf mu e sz xs => g.sz id = sz ∧ (∀ x ∈ xs, x.flat.length = sz) ∧ g.cap id ≤ maxLen ∧ xs.length ≤ g.cap id ∧
      ((g.blk id = none ∧ g.cap id = 0) ∨
       ∃ b us, g.blk id = some b ∧ w.heap[b]? = some (.cells us e (0, 0)) ∧ us.size = g.cap id * sz ∧
        (∀ (j : Nat) (u : Value), j < xs.length * sz → us[j]? = some u → u.oneCell' = true) ∧
        (∀ (j : Nat) (u : Value) (d : D), us[j]? = some u → (flats xs)[j]? = some d → RepD g.St w u d) ∧
        (∀ o, g.St b o ↔ (mu = false ∧ o < xs.length * sz)))
  | .iter s pos => ∃ b, g.blk id = some b ∧ w.heap[b]? = some (.stringIter s pos) ∧ ∀ o, ¬ g.St b o
  | .map k l => ∃ b es, g.blk id = some b ∧ w.heap[b]? = some (.map es l.length) ∧ es.size = l.length ∧
      (∀ (j : Nat) (e : MapEntry) (p : Value × D), es[j]? = some e → l[j]? = some p → e.born = j ∧ e.key = p.1 ∧ RepD g.St w e.val p.2) ∧ (∀ o, ¬ g.St b o) ∧ ∀ c, k = some c → c = b
  | .miter m since seen st => ∃ b bm, g.blk id = some b ∧ m < g.n ∧ g.blk m = some bm ∧ w.heap[b]? = some (.mapIter (some bm) since seen.toArray st) ∧ ∀ o, ¬ g.St b o
  | .gone => True

structure Inv (g : Gh) (w : World) (η : List Ob) : Prop where
  n : g.n = η.length
  lt : ∀ id b, g.blk id = some b → b < w.heap.size
  dead : ∀ id, g.n ≤ id → g.blk id = none
  inj : ∀ i j b, g.blk i = some b → g.blk j = some b → i = j
  ob : ∀ id o, η[id]? = some o → ObOk g w id o
  st : ∀ b o, g.St b o → b < w.heap.size
  gl : Glob g.St w

/-- memory grows: what was there is as it was -/
structure Grow (g : Gh) (w : World) (g' : Gh) (w' : World) : Prop where
  blk : g'.blk = g.blk
  cap : g'.cap = g.cap
  sz : g'.sz = g.sz
  n : g'.n = g.n
  os : w'.os = w.os
  tape : w'.tape = w.tape
  output : w'.output = w.output
  size : w.heap.size ≤ w'.heap.size
  heap : ∀ k, k < w.heap.size → w'.heap[k]? = w.heap[k]?
  sub : ∀ b o, g.St b o → g'.St b o
  new : ∀ b o, g'.St b o → g.St b o ∨ w.heap.size ≤ b
  lt : ∀ b o, g'.St b o → b < w'.heap.size

theorem Grow.refl {g : Gh} {w : World} (h : ∀ b o, g.St b o → b < w.heap.size) : Grow g w g w := ⟨rfl, rfl, rfl, rfl, rfl, rfl, rfl, Nat.le_refl _, fun _ _ => rfl, fun _ _ h => h, fun _ _ h => .inl h, h⟩

theorem Grow.trans {g g1 g2 : Gh} {w w1 w2 : World} (h : Grow g w g1 w1) (k : Grow g1 w1 g2 w2) : Grow g w g2 w2 :=
  ⟨k.blk.trans h.blk, k.cap.trans h.cap, k.sz.trans h.sz, k.n.trans h.n, k.os.trans h.os, k.tape.trans h.tape, k.output.trans h.output, Nat.le_trans h.size k.size,
    fun i hi => (k.heap i (Nat.lt_of_lt_of_le hi h.size)).trans (h.heap i hi), fun b o hb => k.sub _ _ (h.sub _ _ hb),
    fun b o hb => by
      rcases k.new b o hb with h1 | h1
      · exact h.new b o h1
      · exact .inr (Nat.le_trans h.size h1), k.lt⟩

theorem Grow.keep {g g' : Gh} {w w' : World} (h : Grow g w g' w') (hst : ∀ b o, g.St b o → b < w.heap.size) : Keep g.St w g'.St w' :=
  ⟨h.sub, fun b o _u hb hu => (World.cell?_of_block (a := ⟨b, o, none⟩) (h.heap b (hst b o hb))).trans hu, fun b hb => h.heap b (hst b 0 (hb 0))⟩

theorem RepS.change {g g' : Gh} {w w' : World} {v : Value} {s : SV} (k : Keep g.St w g'.St w') (hb : g'.blk = g.blk) (hc : g'.cap = g.cap) (hs : g'.sz = g.sz) (hn : g'.n = g.n) (r : RepS g w v s) : RepS g' w' v s := by
  induction s generalizing v with
  | d d => exact RepD.keep k r
  | nil => exact r
  | ptr id off => unfold RepS at *; rw [hn, hb]; exact r
  | rptr cs =>
    obtain ⟨ad, us, h1, h2, h3, h4, h5⟩ := r
    exact ⟨ad, us, h1, h2, h3, fun j u hu => (h4 j u hu).keep k, fun j u d hu hd => (h5 j u d hu hd).keep k⟩
  | bptr id i off => unfold RepS at *; rw [hn, hb, hs]; exact r
  | buf id n => unfold RepS at *; rw [hn, hb, hc]; exact r
  | clo f ids => unfold RepS at *; rw [hn, hb]; exact r
  | mp id => unfold RepS at *; rw [hn, hb]; exact r
  | pair a b ha hb' => obtain ⟨u1, u2, h1, h2, h3⟩ := r; exact ⟨u1, u2, h1, ha h2, hb' h3⟩
  | p φ => exact r
  | top => trivial

theorem RepS.grow {g g' : Gh} {w w' : World} {v : Value} {s : SV} (hst : ∀ b o, g.St b o → b < w.heap.size) (h : Grow g w g' w') (r : RepS g w v s) : RepS g' w' v s :=
  r.change (h.keep hst) h.blk h.cap h.sz h.n

theorem Inv.grow {g g' : Gh} {w w' : World} {η : List Ob} (i : Inv g w η) (h : Grow g w g' w') : Inv g' w' η where
  n := h.n.trans i.n
  lt id b hb := by rw [h.blk] at hb; exact Nat.lt_of_lt_of_le (i.lt id b hb) h.size
  dead id hid := by rw [h.blk]; exact i.dead id (by rw [← h.n]; exact hid)
  inj a b c ha hb := by rw [h.blk] at ha hb; exact i.inj a b c ha hb
  st := h.lt
  gl := i.gl.keep (h.keep i.st)
  ob id o ho := by
    have := i.ob id o ho
    have kp := h.keep i.st
    cases o with
    | bx k et cs =>
      obtain ⟨b, e, us, h1, h2, h3, h4, h5, h6, h8⟩ := this
      refine ⟨b, e, us, by rw [h.blk]; exact h1, (h.heap b (i.lt id b h1)).trans h2, h3, h4, fun j u s hu hs => (h5 j u s hu hs).grow i.st h, fun o ho => ?_, h8⟩
      rcases h.new b o ho with h7 | h7
      · exact h6 o h7
      · exact absurd (i.lt id b h1) (by omega)
    | buf mu e sz xs =>
      obtain ⟨h1, h2, h3, h4, h5⟩ := this
      refine ⟨by rw [h.sz]; exact h1, h2, by rw [h.cap]; exact h3, by rw [h.cap]; exact h4, ?_⟩
      rcases h5 with h5 | ⟨b, us, h5, h6, h7, h8, h9, h10⟩
      · exact .inl (by rw [h.blk, h.cap]; exact h5)
      · refine .inr ⟨b, us, by rw [h.blk]; exact h5, (h.heap b (i.lt id b h5)).trans h6, by rw [h.cap]; exact h7, h8, fun j u d hu hd => (h9 j u d hu hd).keep kp, fun o => ⟨fun ho => ?_, fun ho => h.sub _ _ ((h10 o).2 ho)⟩⟩
        rcases h.new b o ho with h11 | h11
        · exact (h10 o).1 h11
        · exact absurd (i.lt id b h5) (by omega)
    | iter s pos =>
      obtain ⟨b, h1, h2, h3⟩ := this
      refine ⟨b, by rw [h.blk]; exact h1, (h.heap b (i.lt id b h1)).trans h2, fun o ho => ?_⟩
      rcases h.new b o ho with h7 | h7
      · exact h3 o h7
      · exact absurd (i.lt id b h1) (by omega)
    | map k l =>
      obtain ⟨b, es, h1, h2, h3, h4, h5, h6⟩ := this
      refine ⟨b, es, by rw [h.blk]; exact h1, (h.heap b (i.lt id b h1)).trans h2, h3, fun j e p he hp => ⟨(h4 j e p he hp).1, (h4 j e p he hp).2.1, (h4 j e p he hp).2.2.keep kp⟩, fun o ho => ?_, h6⟩
      rcases h.new b o ho with h7 | h7
      · exact h5 o h7
      · exact absurd (i.lt id b h1) (by omega)
    | miter m since seen st =>
      obtain ⟨b, bm, h1, h2, h3, h4, h5⟩ := this
      refine ⟨b, bm, by rw [h.blk]; exact h1, by rw [h.n]; exact h2, by rw [h.blk]; exact h3, (h.heap b (i.lt id b h1)).trans h4, fun o ho => ?_⟩
      rcases h.new b o ho with h7 | h7
      · exact h5 o h7
      · exact absurd (i.lt id b h1) (by omega)
    | gone => trivial

end Go.Sx
/- The engine: states of abstract values, one operation, a region whose order is laid down. -/
namespace Go.Sx

structure Ctx where
  P : Program
  N : Nat
  w0 : World
  St0 : Stab
  X : Nat → Prop
  ro : Nat

abbrev Sl := List (Nat × SV)

def get : Sl → Nat → SV
  | [], _ => .top
  | (k, s) :: r, t => match Nat.beq k t with
    | true => s
    | false => get r t

def put (σ : Sl) : Option Nat → SV → Sl
  | some d, s => (d, s) :: σ
  | none, _ => σ

def cst : Value → SV
  | .slice none 0 0 => .nil
  | v => .d (.val v)

def oval (σ : Sl) : Operand → SV
  | .tmp t => get σ t
  | .const v => cst v
  | .func f => .clo f []
  | .global _ => .top

theorem get_cons (k : Nat) (s : SV) (r : Sl) (t : Nat) : get ((k, s) :: r) t = if k = t then s else get r t := by
  show (match Nat.beq k t with | true => s | false => get r t) = _
  by_cases h : k = t
  · subst h; simp
  · rw [if_neg h]
    cases h' : Nat.beq k t with
    | false => rfl
    | true => exact absurd (Nat.eq_of_beq_eq_true h') h

structure AbsG (C : Ctx) (g : Gh) (σ : Sl) (η : List Ob) (a : Act) (w : World) : Prop where
  defers : a.defers = []
  size : a.tmps.size = C.N
  inv : Inv g w η
  os : w.os = C.w0.os
  tape : w.tape = C.w0.tape
  output : w.output = C.w0.output
  wsize : C.w0.heap.size ≤ w.heap.size
  heap : ∀ k, k < C.w0.heap.size → ¬ C.X k → w.heap[k]? = C.w0.heap[k]?
  keep : Keep C.St0 C.w0 g.St w
  new : ∀ b o, g.St b o → C.St0 b o ∨ C.w0.heap.size ≤ b ∨ C.X b
  own : ∀ id b, g.blk id = some b → C.ro ≤ id → C.w0.heap.size ≤ b ∨ C.X b
  rep : ∀ t, RepS g w (a.tmps.getD t undef) (get σ t)

def Abs (C : Ctx) (σ : Sl) (η : List Ob) (a : Act) (w : World) : Prop := ∃ g, AbsG C g σ η a w

theorem AbsG.grow {C : Ctx} {g g' : Gh} {σ : Sl} {η : List Ob} {a : Act} {w w' : World} (h : AbsG C g σ η a w) (k : Grow g w g' w') : AbsG C g' σ η a w' where
  defers := h.defers
  size := h.size
  inv := h.inv.grow k
  os := k.os.trans h.os
  tape := k.tape.trans h.tape
  output := k.output.trans h.output
  wsize := Nat.le_trans h.wsize k.size
  heap i hi hx := (k.heap i (Nat.lt_of_lt_of_le hi h.wsize)).trans (h.heap i hi hx)
  keep := h.keep.trans (k.keep h.inv.st)
  new b o hb := by
    rcases k.new b o hb with h1 | h1
    · exact h.new b o h1
    · exact .inr (.inl (Nat.le_trans h.wsize h1))
  own id b hb hr := by rw [k.blk] at hb; exact h.own id b hb hr
  rep t := (h.rep t).grow h.inv.st k

def DstOk (N : Nat) : Option Nat → Prop
  | some d => Nat.blt d N = true
  | none => True

theorem AbsG.put {C : Ctx} {g : Gh} {σ : Sl} {η : List Ob} {a : Act} {w : World} (h : AbsG C g σ η a w) {d : Option Nat} {v : Value} {s : SV} (hd : DstOk C.N d) (hr : RepS g w v s) : AbsG C g (put σ d s) η (a.put d v) w := by
  cases d with
  | none => exact h
  | some d =>
    have hlt : d < C.N := by simpa [DstOk, Nat.blt_eq] using hd
    refine ⟨h.defers, by simpa [Act.put] using h.size, h.inv, h.os, h.tape, h.output, h.wsize, h.heap, h.keep, h.new, h.own, fun t => ?_⟩
    have hs := h.size
    show RepS g w ((a.tmps.setIfInBounds d v).getD t undef) (get ((d, s) :: σ) t)
    rw [get_cons]
    by_cases e : d = t
    · subst e; rw [if_pos rfl]; simpa [hs, hlt] using hr
    · rw [if_neg e]
      have := h.rep t
      simpa [Array.getElem?_setIfInBounds_ne e] using this

theorem RepS.cst (g : Gh) (w : World) (v : Value) : RepS g w v (cst v) := by
  unfold Sx.cst
  split
  · rfl
  · exact .val _

theorem AbsG.eval {C : Ctx} {g : Gh} {σ : Sl} {η : List Ob} {a : Act} {w : World} (h : AbsG C g σ η a w) (x : Operand) : RepS g w (a.eval x) (oval σ x) := by
  cases x with
  | tmp t => exact h.rep t
  | const v => exact RepS.cst g w v
  | func f => exact ⟨[], rfl, rfl, fun j id u hj => by simp at hj⟩
  | global g => trivial

/-- What operation o yields, where its operands are so. -/
def Ylds (P : Program) (η : List Ob) (σ : Sl) (o : Oper) (s : SV) : Prop :=
  ∀ (g : Gh) (w : World) (a : Act), Inv g w η → (∀ x ∈ o.op.operands, RepS g w (a.eval x) (oval σ x)) →
    (∃ v g' w', (execOp a.eval o).run P w = .ok (.value v) w' ∧ Grow g w g' w' ∧ RepS g' w' v s) ∨
    (∃ f args, (execOp a.eval o).run P w = .ok (.enter f args) w ∧ Calls P f args w (fun e w' => ∃ v g', e = .returned v ∧ Grow g w g' w' ∧ RepS g' w' v s))

theorem Ylds.same {P : Program} {η : List Ob} {σ : Sl} {o : Oper} {s : SV}
    (h : ∀ (g : Gh) (w : World) (a : Act), Inv g w η → (∀ x ∈ o.op.operands, RepS g w (a.eval x) (oval σ x)) → ∃ v, (execOp a.eval o).run P w = .ok (.value v) w ∧ RepS g w v s) : Ylds P η σ o s :=
  fun g w a hi hx => let ⟨v, h1, h2⟩ := h g w a hi hx; .inl ⟨v, g, w, h1, Grow.refl hi.st, h2⟩

/-- Is the guard met (b), or not? -/
def Wants (ops : Array Oper) (σ : Sl) (gd : Option (Nat × Bool)) (b : Bool) : Prop :=
  match gd with
  | none => b = true
  | some (j, want) => ∃ t, (ops[j]?).bind (·.dst) = some t ∧ get σ t = .d (.val (.bool (if b then want else !want)))

theorem Wants.wanted {ops : Array Oper} {σ : Sl} {o : Oper} {b : Bool} {tmps : Array Value} {g : Gh} {w : World} (h : Wants ops σ o.guard b) (hr : ∀ t, (∀ j q, o.guard = some (j, q) → (ops[j]?).bind (·.dst) = some t → RepS g w (tmps.getD t undef) (get σ t))) :
    Region.wanted o (yielded ops tmps) = b := by
  unfold Wants at h
  unfold Region.wanted
  cases hg : o.guard with
  | none => rw [hg] at h; exact h.symm
  | some q =>
    obtain ⟨j, want⟩ := q
    rw [hg] at h
    obtain ⟨t, ht, hv⟩ := h
    have := hr t j want hg ht
    rw [hv] at this
    have hv2 := RepD.val_eq this
    have hlt : t < tmps.size := by
      rcases Nat.lt_or_ge t tmps.size with h1 | h1
      · exact h1
      · rw [Array.getD_eq_getD_getElem?, Array.getElem?_eq_none h1] at hv2; cases hv2
    have : tmps[t]? = some (.bool (if b then want else !want)) := by
      rw [Array.getD_eq_getD_getElem?, Array.getElem?_eq_getElem hlt] at hv2
      rw [Array.getElem?_eq_getElem hlt]
      simpa using hv2
    simp only [yielded, ht, Option.bind_some, this]
    cases b <;> cases want <;> rfl

/-! ### A region whose order is laid down -/

def alexE (C : Ctx) (ops : Array Oper) (l : List Oper) (K : Sl → List Ob → Prop) (σ : Sl) (η : List Ob) : Prop :=
  ∀ (Q : Exit → Act → World → Prop), (∀ σ' η' a w, K σ' η' → Abs C σ' η' a w → Q .normal a w) → ∀ a w, Abs C σ η a w → wpList C.P ops Q l a w

theorem Ylds.wp {C : Ctx} {η : List Ob} {σ : Sl} {o : Oper} {s : SV} (hy : Ylds C.P η σ o s) (hd : DstOk C.N o.dst) {Q : Exit → Act → World → Prop} {K : Act → World → Prop}
    (hK : ∀ a w, Abs C (put σ o.dst s) η a w → K a w) {a : Act} {w : World} {g : Gh} (h : AbsG C g σ η a w) : o.wp C.P a w K Q := by
  unfold Oper.wp
  rcases hy g w a h.inv (fun x _ => h.eval x) with ⟨v, g', w', hr, hg, hs⟩ | ⟨f, args, hr, hc⟩
  · rw [hr]
    exact hK _ _ ⟨g', (h.grow hg).put hd hs⟩
  · rw [hr]
    rw [Oper.upon_enter]
    refine hc.mono fun e w' ⟨v, g', he, hg, hs⟩ => ?_
    subst he
    exact hK _ _ ⟨g', (h.grow hg).put hd hs⟩

theorem alexE_step {C : Ctx} {ops : Array Oper} {o : Oper} {rest : List Oper} {K : Sl → List Ob → Prop} {σ : Sl} {η : List Ob} {s : SV}
    (hw : Wants ops σ o.guard true) (hy : Ylds C.P η σ o s) (hd : DstOk C.N o.dst) (h : alexE C ops rest K (put σ o.dst s) η) : alexE C ops (o :: rest) K σ η := by
  intro Q hQ a w ⟨g, ha⟩
  refine wpList_step fun K' hK' => ?_
  rw [if_pos (hw.wanted fun t _ _ _ _ => ha.rep t)]
  exact hy.wp hd (fun a w hab => hK' a w (h Q hQ a w hab)) ha

theorem alexE_skip {C : Ctx} {ops : Array Oper} {o : Oper} {rest : List Oper} {K : Sl → List Ob → Prop} {σ : Sl} {η : List Ob}
    (hw : Wants ops σ o.guard false) (hd : DstOk C.N o.dst) (h : alexE C ops rest K (put σ o.dst .top) η) : alexE C ops (o :: rest) K σ η := by
  intro Q hQ a w ⟨g, ha⟩
  refine wpList_step fun K' hK' => ?_
  rw [if_neg (by rw [hw.wanted fun t _ _ _ _ => ha.rep t]; simp)]
  exact hK' _ _ (h Q hQ _ w ⟨g, ha.put hd trivial⟩)

theorem AbsG.get_eq {C : Ctx} {g : Gh} {σ σ' : Sl} {η : List Ob} {a : Act} {w : World} (h : AbsG C g σ η a w) (e : ∀ t, get σ' t = get σ t ∨ get σ' t = .top) : AbsG C g σ' η a w :=
  ⟨h.defers, h.size, h.inv, h.os, h.tape, h.output, h.wsize, h.heap, h.keep, h.new, h.own, fun t => by
    rcases e t with e | e
    · rw [e]; exact h.rep t
    · rw [e]; trivial⟩

/-- σ' says no more than σ -/
def Le (σ' σ : Sl) : Prop := ∀ t, get σ' t = get σ t ∨ get σ' t = .top

theorem Le.refl (σ : Sl) : Le σ σ := fun _ => .inl rfl

theorem Abs.le {C : Ctx} {σ σ' : Sl} {η : List Ob} {a : Act} {w : World} (h : Abs C σ η a w) (e : Le σ' σ) : Abs C σ' η a w := let ⟨g, h⟩ := h; ⟨g, h.get_eq e⟩

/-! ### A region that draws its order: its operations leave the objects as they are -/

/-- is operation i one of those that must have come up before j does? -/
def reach (ops : Array Oper) : Nat → Nat → Nat → Bool
  | 0, _, _ => false
  | f + 1, j, i => match ops[j]? with
    | some o => o.after.any fun e => Region.binds .any e && (Nat.beq e.on i || (Nat.blt i e.on && reach ops f e.on i))
    | none => false
/-- the operation that r others stand behind comes up behind all ahead of it, and ahead of those r -/
def barOk (ops : Array Oper) (r : Nat) : Bool :=
  Nat.blt r ops.size && ((List.range (ops.size - 1 - r)).all fun i => reach ops ops.size (ops.size - 1 - r) i) && (List.range r).all fun i => reach ops ops.size (ops.size - r + i) (ops.size - 1 - r)
/-- an operation that turns objects -/
def EStep (C : Ctx) (o : Oper) (J : Sl → List Ob → Prop) (σ : Sl) (η : List Ob) : Prop :=
  ∀ (Q : Exit → Act → World → Prop) a w, Abs C σ η a w → o.wp C.P a w (fun a w => ∃ σ' η', J σ' η' ∧ Abs C σ' η' a w) Q

def alexD (C : Ctx) (ops : Array Oper) : List Oper → (Sl → List Ob → Prop) → Sl → List Ob → Prop
  | [], K, σ, η => ∃ σ', K σ' η ∧ Le σ' σ
  | o :: rest, K, σ, η => (∃ s, ((Wants ops σ o.guard true ∧ Ylds C.P η σ o s) ∨ (Wants ops σ o.guard false ∧ s = .top)) ∧ DstOk C.N o.dst ∧ alexD C ops rest K (put σ o.dst s) η) ∨
    (barOk ops rest.length = true ∧ Wants ops σ o.guard true ∧ EStep C o (alexD C ops rest K) σ η)

theorem oval_congr {σ σ' : Sl} (e : ∀ t, get σ' t = get σ t) (x : Operand) : oval σ' x = oval σ x := by
  cases x <;> simp [oval, e]

theorem put_congr {σ σ' : Sl} (e : ∀ t, get σ' t = get σ t) (d : Option Nat) (s : SV) (t : Nat) : get (put σ' d s) t = get (put σ d s) t := by
  cases d with
  | none => exact e t
  | some d => simp [put, get_cons, e]

theorem Wants.congr {ops : Array Oper} {σ σ' : Sl} {gd : Option (Nat × Bool)} {b : Bool} (e : ∀ t, get σ' t = get σ t) (h : Wants ops σ gd b) : Wants ops σ' gd b := by
  unfold Wants at *
  split at h
  · exact h
  · obtain ⟨t, h1, h2⟩ := h
    exact ⟨t, h1, (e t).trans h2⟩

theorem Ylds.congr {P : Program} {η : List Ob} {σ σ' : Sl} {o : Oper} {s : SV} (e : ∀ x ∈ o.op.operands, oval σ' x = oval σ x) (h : Ylds P η σ o s) : Ylds P η σ' o s :=
  fun g w a hi hx => h g w a hi (fun x hm => by rw [← e x hm]; exact hx x hm)

theorem alexD_congr {C : Ctx} {η : List Ob} {ops : Array Oper} {K : Sl → List Ob → Prop} : ∀ (l : List Oper) (σ σ' : Sl), (∀ t, get σ' t = get σ t) → alexD C ops l K σ η → alexD C ops l K σ' η
  | [], _, _, e, ⟨τ, h1, h2⟩ => ⟨τ, h1, fun t => by rw [e t]; exact h2 t⟩
  | o :: l, σ, σ', e, .inl ⟨s, h1, h2, h3⟩ => by
    refine .inl ⟨s, ?_, h2, alexD_congr l _ _ (put_congr e o.dst s) h3⟩
    rcases h1 with ⟨h1, h4⟩ | ⟨h1, h4⟩
    · exact .inl ⟨h1.congr e, h4.congr fun x _ => oval_congr e x⟩
    · exact .inr ⟨h1.congr e, h4⟩
  | o :: l, σ, σ', e, .inr ⟨h1, h2, h3⟩ => .inr ⟨h1, h2.congr e, fun Q a w hab => h3 Q a w (hab.le fun t => .inl (e t).symm)⟩

def alex (C : Ctx) (dr : Bool) (ops : Array Oper) (l : List Oper) (K : Sl → List Ob → Prop) (σ : Sl) (η : List Ob) : Prop :=
  match dr with
  | true => alexD C ops l K σ η
  | false => alexE C ops l K σ η

section
variable {C : Ctx} {dr : Bool} {ops : Array Oper} {o : Oper} {rest : List Oper} {K : Sl → List Ob → Prop} {σ : Sl} {η : List Ob}
theorem alex_nil (h : K σ η) : alex C dr ops [] K σ η := by
  cases dr with
  | true => exact ⟨σ, h, Le.refl σ⟩
  | false => exact fun Q hQ a w hab => hQ σ η a w h hab
theorem alex_stepW {s : SV} (hw : Wants ops σ o.guard true) (hy : Ylds C.P η σ o s) (hd : DstOk C.N o.dst) (h : alex C dr ops rest K (put σ o.dst s) η) : alex C dr ops (o :: rest) K σ η := by
  cases dr with
  | true => exact .inl ⟨s, .inl ⟨hw, hy⟩, hd, h⟩
  | false => exact alexE_step hw hy hd h
theorem alex_skipW (hw : Wants ops σ o.guard false) (hd : DstOk C.N o.dst) (h : alex C dr ops rest K (put σ o.dst .top) η) : alex C dr ops (o :: rest) K σ η := by
  cases dr with
  | true => exact .inl ⟨.top, .inr ⟨hw, rfl⟩, hd, h⟩
  | false => exact alexE_skip hw hd h
theorem get_self {σ : Sl} {t : Nat} {s : SV} (h : get σ t = s) (u : Nat) : get ((t, s) :: σ) u = get σ u := by
  rw [get_cons]; split
  · rename_i e; subst e; exact h.symm
  · rfl
theorem alex_split {l : List Oper} (t : Nat) {b : Bool} (hg : get σ t = .d (.val (.bool b))) (h1 : b = true → alex C dr ops l K ((t, .d (.val (.bool true))) :: σ) η) (h2 : b = false → alex C dr ops l K ((t, .d (.val (.bool false))) :: σ) η) : alex C dr ops l K σ η := by
  have key : ∀ b, get σ t = .d (.val (.bool b)) → alex C dr ops l K ((t, .d (.val (.bool b))) :: σ) η → alex C dr ops l K σ η := by
    intro b hb h
    cases dr with
    | true => exact alexD_congr l _ _ (fun u => (get_self hb u).symm) h
    | false => exact fun Q hQ a w hab => h Q hQ a w (hab.le fun u => .inl (get_self hb u))
  cases b with
  | true => exact key true hg (h1 rfl)
  | false => exact key false hg (h2 rfl)
end

/-! ### The code -/

def awp (C : Ctx) (c : Code) (Q : Exit → Sl → List Ob → Prop) (σ : Sl) (η : List Ob) : Prop :=
  ∀ (R : Exit → Act → World → Prop), (∀ e σ' η' a w, Q e σ' η' → Abs C σ' η' a w → R e a w) → ∀ a w, Abs C σ η a w → c.wp C.P R a w

def athen (K : Sl → List Ob → Prop) (Q : Exit → Sl → List Ob → Prop) : Exit → Sl → List Ob → Prop
  | .normal, σ, η => K σ η
  | e, σ, η => Q e σ η

def ablock (id : Nat) (Q : Exit → Sl → List Ob → Prop) : Exit → Sl → List Ob → Prop
  | .exit id', σ, η => if id' = id then Q .normal σ η else Q (.exit id') σ η
  | e, σ, η => Q e σ η

section
variable {C : Ctx} {Q : Exit → Sl → List Ob → Prop} {σ : Sl} {η : List Ob}
theorem awp_skip (h : Q .normal σ η) : awp C .skip Q σ η := fun _R hR _a _w hab => wp_skip (hR _ _ _ _ _ h hab)
theorem awp_label {l : Nat} (h : Q .normal σ η) : awp C (.label l) Q σ η := fun _R hR _a _w hab => wp_label (hR _ _ _ _ _ h hab)
theorem awp_exit {id : Nat} (h : Q (.exit id) σ η) : awp C (.exit id) Q σ η := fun _R hR _a _w hab => wp_exit (hR _ _ _ _ _ h hab)
theorem awp_goto {id : Nat} (h : Q (.goto id) σ η) : awp C (.goto id) Q σ η := fun _R hR _a _w hab => wp_goto (hR _ _ _ _ _ h hab)
theorem awp_ret (h : Q .ret σ η) : awp C .ret Q σ η := fun _R hR _a _w hab => wp_ret (hR _ _ _ _ _ h hab)
theorem awp_seq {x y : Code} (h : awp C x (athen (awp C y Q) Q) σ η) : awp C (.seq x y) Q σ η := by
  intro R hR a w hab
  refine wp_seq (h _ (fun e σ' η' a' w' hq hab' => ?_) a w hab)
  cases e <;> first | exact hq R hR a' w' hab' | exact hR _ _ _ _ _ hq hab'
theorem awp_block {id : Nat} {c : Code} (h : awp C c (ablock id Q) σ η) : awp C (.block id c) Q σ η := by
  intro R hR a w hab
  refine wp_block (h _ (fun e σ' η' a' w' hq hab' => ?_) a w hab)
  cases e with
  | exit id' =>
    simp only [ablock] at hq
    simp only [Exit.inBlock]
    split
    · rename_i h0; rw [if_pos h0] at hq; exact hR _ _ _ _ _ hq hab'
    · rename_i h0; rw [if_neg h0] at hq; exact hR _ _ _ _ _ hq hab'
  | _ => exact hR _ _ _ _ _ hq hab'
theorem awp_cond {x : Operand} {c d : Code} {b : Bool} (hx : oval σ x = .d (.val (.bool b))) (h1 : b = true → awp C c Q σ η) (h2 : b = false → awp C d Q σ η) : awp C (.cond x c d) Q σ η := by
  intro R hR a w hab
  obtain ⟨g, hg⟩ := hab
  have := hg.eval x
  rw [hx] at this
  have e := RepD.val_eq this
  exact wp_cond_split e (fun hb => h1 hb R hR a w ⟨g, hg⟩) (fun hb => h2 hb R hR a w ⟨g, hg⟩)
theorem awp_region {id : Nat} {l : List Oper} (h : alex C false l.toArray l (Q .normal) σ η) : awp C (.region id l.toArray false) Q σ η :=
  fun R hR a w hab => wp_region_lit (h R (fun _σ' _η' _a' _w' hq hab' => hR _ _ _ _ _ hq hab') a w hab)
theorem awp_mono {c : Code} {Q' : Exit → Sl → List Ob → Prop} (hq : ∀ e σ η, Q e σ η → Q' e σ η) (h : awp C c Q σ η) : awp C c Q' σ η :=
  fun R hR a w hab => h R (fun _ _ _ _ _ q hab' => hR _ _ _ _ _ (hq _ _ _ q) hab') a w hab
theorem awp_le {c : Code} {σ' : Sl} (e : Le σ' σ) (h : awp C c Q σ' η) : awp C c Q σ η := fun R hR a w hab => h R hR a w (hab.le e)
end

/-- one round; I: what holds at its head, for some parameter x; μ: what goes down -/
theorem awp_loop' {C : Ctx} {c : Code} {Q : Exit → Sl → List Ob → Prop} {α : Type} (I : α → Prop) (s : α → Sl) (h : α → List Ob) (μ : α → Nat) (x0 : α)
    (h0 : I x0)
    (round : ∀ x, I x → awp C c (athen (fun σ' η' => ∃ y, I y ∧ μ y < μ x ∧ s y = σ' ∧ h y = η') Q) (s x) (h x)) : awp C (.loop c) Q (s x0) (h x0) := by
  intro R hR a w hab
  have key : ∀ (n : Nat) (x : α), μ x = n → I x → ∀ a w, Abs C (s x) (h x) a w → ∀ b k cs, ∃ e a' w', R e a' w' ∧ Arrives C.P (lone (b.at a (.code c :: .inLoop c :: k)) cs w) b k cs e a' w' := by
    intro n
    induction n using Nat.strongRecOn with
    | _ n ih =>
      intro x hn hI a w hab b k cs
      have hr := round x hI (Exit.then (fun a' w' => ∃ y, I y ∧ μ y < μ x ∧ Abs C (s y) (h y) a' w') R) (fun e σ' η' a' w' hq hab' => by
        cases e with
        | normal => obtain ⟨y, h1, h2, h3, h4⟩ := hq; subst h3; subst h4; exact ⟨y, h1, h2, hab'⟩
        | _ => exact hR _ _ _ _ _ hq hab') a w hab
      obtain ⟨e, a₁, w₁, hq, harr⟩ := hr b (.inLoop c :: k) cs
      cases e with
      | normal =>
        obtain ⟨y, h1, h2, h3⟩ := hq
        obtain ⟨e₂, a₂, w₂, hq₂, harr₂⟩ := ih (μ y) (hn ▸ h2) y rfl h1 a₁ w₁ h3 b k cs
        exact ⟨e₂, a₂, w₂, hq₂, .of_steps (Steps.trans harr (.one step_inLoop)) harr₂⟩
      | exit id => exact ⟨_, a₁, w₁, hq, .pass (x := .inLoop c) rfl (fun _ _ => .inl (by simp)) harr⟩
      | goto l => exact ⟨_, a₁, w₁, hq, .pass (x := .inLoop c) rfl (fun _ _ => .inl (by simp)) harr⟩
      | ret => exact ⟨_, a₁, w₁, hq, .pass (x := .inLoop c) rfl (fun _ _ => .inl (by simp)) harr⟩
      | panic ch => exact ⟨_, a₁, w₁, hq, .pass (x := .inLoop c) rfl (fun _ _ => .inl (by simp)) harr⟩
      | outgrown => exact ⟨_, a₁, w₁, hq, .pass (x := .inLoop c) rfl (fun _ _ => .inl (by simp)) harr⟩
  intro b k cs
  obtain ⟨e, a', w', hq, harr⟩ := key _ x0 rfl h0 a w hab b k cs
  exact ⟨e, a', w', hq, .of_steps (.one step_loop) harr⟩

/-- a scope in which one label is jumped to -/
def ajump (l : Nat) (J : Sl → List Ob → Prop) (Q : Exit → Sl → List Ob → Prop) : Exit → Sl → List Ob → Prop
  | .goto l', σ, η => l' = l ∧ J σ η
  | e, σ, η => Q e σ η

theorem awp_scope' {C : Ctx} {c rest : Code} {Q : Exit → Sl → List Ob → Prop} {σ : Sl} {η : List Ob} {α : Type} (l : Nat) (hf : findLabel c l = some rest) (I : α → Prop) (s : α → Sl) (h : α → List Ob) (μ : α → Nat)
    (first : awp C c (ajump l (fun σ' η' => ∃ y, I y ∧ s y = σ' ∧ h y = η') Q) σ η)
    (pass : ∀ x, I x → awp C rest (ajump l (fun σ' η' => ∃ y, I y ∧ μ y < μ x ∧ s y = σ' ∧ h y = η') Q) (s x) (h x)) : awp C (.scope c) Q σ η := by
  intro R hR a w hab
  have hg : ∀ k, gotoIn l (.inScope c :: k) = some (.code rest :: .inScope c :: k) := fun k => by simp [gotoIn, hf]
  have key : ∀ (n : Nat) (x : α), μ x = n → I x → ∀ a w, Abs C (s x) (h x) a w → ∀ b k cs, ∃ e a' w', R e a' w' ∧ Arrives C.P (lone (b.at a (.code rest :: .inScope c :: k)) cs w) b k cs e a' w' := by
    intro n
    induction n using Nat.strongRecOn with
    | _ n ih =>
      intro x hn hI a w hab b k cs
      have hr := pass x hI (fun e a' w' => match e with | .goto l' => l' = l ∧ ∃ y, I y ∧ μ y < μ x ∧ Abs C (s y) (h y) a' w' | e => R e a' w') (fun e σ' η' a' w' hq hab' => by
        cases e with
        | goto l' => obtain ⟨e1, y, h1, h2, h3, h4⟩ := hq; subst h3; subst h4; exact ⟨e1, y, h1, h2, hab'⟩
        | _ => exact hR _ _ _ _ _ hq hab') a w hab
      obtain ⟨e, a₁, w₁, hq, harr⟩ := hr b (.inScope c :: k) cs
      cases e with
      | normal => exact ⟨.normal, a₁, w₁, hq, Steps.trans harr (.one step_inScope)⟩
      | exit id => exact ⟨.exit id, a₁, w₁, hq, fun k' hk => harr k' (by simp [exitTo, hk])⟩
      | goto l' =>
        obtain ⟨rfl, y, h1, h2, h3⟩ := hq
        obtain ⟨e₂, a₂, w₂, hq₂, harr₂⟩ := ih (μ y) (hn ▸ h2) y rfl h1 a₁ w₁ h3 b k cs
        exact ⟨e₂, a₂, w₂, hq₂, .of_steps (harr _ (hg k)) harr₂⟩
      | ret => exact ⟨_, a₁, w₁, hq, harr⟩
      | panic ch => exact ⟨_, a₁, w₁, hq, harr⟩
      | outgrown => exact ⟨_, a₁, w₁, hq, harr⟩
  have hf' := first (fun e a' w' => match e with | .goto l' => l' = l ∧ ∃ y, I y ∧ Abs C (s y) (h y) a' w' | e => R e a' w') (fun e σ' η' a' w' hq hab' => by
    cases e with
    | goto l' => obtain ⟨e1, y, h1, h3, h4⟩ := hq; subst h3; subst h4; exact ⟨e1, y, h1, hab'⟩
    | _ => exact hR _ _ _ _ _ hq hab') a w hab
  intro b k cs
  obtain ⟨e, a₁, w₁, hq, harr⟩ := hf' b (.inScope c :: k) cs
  cases e with
  | normal => exact ⟨.normal, a₁, w₁, hq, .head step_scope (Steps.trans harr (.one step_inScope))⟩
  | exit id => exact ⟨.exit id, a₁, w₁, hq, fun k' hk => .head step_scope (harr k' (by simp [exitTo, hk]))⟩
  | goto l' =>
    obtain ⟨rfl, y, h1, h2⟩ := hq
    obtain ⟨e₂, a₂, w₂, hq₂, harr₂⟩ := key _ y rfl h1 a₁ w₁ h2 b k cs
    exact ⟨e₂, a₂, w₂, hq₂, .of_steps (.head step_scope (harr _ (hg k))) harr₂⟩
  | ret => exact ⟨_, a₁, w₁, hq, .of_steps (.one step_scope) harr⟩
  | panic ch => exact ⟨_, a₁, w₁, hq, .of_steps (.one step_scope) harr⟩
  | outgrown => exact ⟨_, a₁, w₁, hq, .of_steps (.one step_scope) harr⟩

end Go.Sx
/- The engine: what single operations yield. -/
namespace Go.Sx

/-! ### Facts on the program's types, as functions -/
def elemTy (P : Program) (t : TypeId) : Option TypeId :=
  match P.underlying t with
  | some (.slice e) => some e
  | _ => none
def elemSize (P : Program) (t : TypeId) : Option Nat :=
  match elemTy P t with
  | some e => (P.info? e).map (·.size)
  | none => none
def fieldOff (P : Program) (t : TypeId) (f : Nat) : Option Nat :=
  match P.underlying t with
  | some (.struct fs) => match fs[f]? with
    | some fl => match P.info? fl.type with
      | some i => if i.size = 0 then none else some fl.offset
      | none => none
    | none => none
  | _ => none
/-- is it an aggregate, and of how many cells -/
def tyCells (P : Program) (t : TypeId) : Option (Bool × Nat) :=
  match P.underlying t, P.info? t with
  | some d, some i => some ((match d with | .struct _ | .array _ _ => true | _ => false), i.size)
  | _, _ => none

theorem elemTy_some {P : Program} {t e : TypeId} (h : elemTy P t = some e) : P.underlying t = some (.slice e) := by
  unfold elemTy at h
  split at h
  · rename_i hu; injection h with h; subst h; exact hu
  · cases h

theorem elemSize_some {P : Program} {t n : Nat} (h : elemSize P t = some n) : ∃ e i, P.underlying t = some (.slice e) ∧ P.info? e = some i ∧ i.size = n := by
  unfold elemSize at h
  split at h
  · rename_i e he
    cases hi : P.info? e with
    | none => simp [hi] at h
    | some i => simp [hi] at h; exact ⟨e, i, elemTy_some he, hi, h⟩
  · cases h

theorem run_under {P : Program} {t : TypeId} {d : TypeDesc} (h : P.underlying t = some d) (w : World) : (underlying t).run P w = .ok d w := run_underlying h w

theorem run_sizeOf' {P : Program} {e : TypeId} {i : TypeInfo} (h : P.info? e = some i) (w : World) : (sizeOf e).run P w = .ok i.size w := by
  simp [sizeOf, typeInfo, h]

section
variable {P : Program} {η : List Ob} {σ : Sl} {dst : Option Nat} {ty : TypeId} {pos : String} {after : Array Edge} {gd : Option (Nat × Bool)}

/-! ### copies -/
theorem Y_copy {o : Oper} {x : Operand} {s : SV} (ho : o.op = .move x ∨ o.op = .assign x) (h : oval σ x = s) : Ylds P η σ o s := by
  refine Ylds.same fun g w a hi hx => ⟨a.eval x, ?_, ?_⟩
  · rcases ho with ho | ho <;> simp [execOp, ho]
  · have := hx x (by rcases ho with ho | ho <;> simp [ho, Op.operands])
    rw [h] at this; exact this

theorem Y_move_d {x : Operand} {d : D} (h : oval σ x = .d d) : Ylds P η σ ⟨dst, .move x, ty, pos, after, gd⟩ (.d d) := Y_copy (.inl rfl) h
theorem Y_move_nil {x : Operand} (h : oval σ x = .nil) : Ylds P η σ ⟨dst, .move x, ty, pos, after, gd⟩ .nil := Y_copy (.inl rfl) h
theorem Y_move_ptr {x : Operand} {i o : Nat} (h : oval σ x = .ptr i o) : Ylds P η σ ⟨dst, .move x, ty, pos, after, gd⟩ (.ptr i o) := Y_copy (.inl rfl) h
theorem Y_move_rptr {x : Operand} {cs : List D} (h : oval σ x = .rptr cs) : Ylds P η σ ⟨dst, .move x, ty, pos, after, gd⟩ (.rptr cs) := Y_copy (.inl rfl) h
theorem Y_move_buf {x : Operand} {i n : Nat} (h : oval σ x = .buf i n) : Ylds P η σ ⟨dst, .move x, ty, pos, after, gd⟩ (.buf i n) := Y_copy (.inl rfl) h
theorem Y_move_clo {x : Operand} {f : FuncId} {ids : List Nat} (h : oval σ x = .clo f ids) : Ylds P η σ ⟨dst, .move x, ty, pos, after, gd⟩ (.clo f ids) := Y_copy (.inl rfl) h
theorem Y_assign_d {x : Operand} {d : D} (h : oval σ x = .d d) : Ylds P η σ ⟨dst, .assign x, ty, pos, after, gd⟩ (.d d) := Y_copy (.inr rfl) h
theorem Y_assign_nil {x : Operand} (h : oval σ x = .nil) : Ylds P η σ ⟨dst, .assign x, ty, pos, after, gd⟩ .nil := Y_copy (.inr rfl) h
theorem Y_assign_ptr {x : Operand} {i o : Nat} (h : oval σ x = .ptr i o) : Ylds P η σ ⟨dst, .assign x, ty, pos, after, gd⟩ (.ptr i o) := Y_copy (.inr rfl) h
theorem Y_assign_rptr {x : Operand} {cs : List D} (h : oval σ x = .rptr cs) : Ylds P η σ ⟨dst, .assign x, ty, pos, after, gd⟩ (.rptr cs) := Y_copy (.inr rfl) h
theorem Y_assign_buf {x : Operand} {i n : Nat} (h : oval σ x = .buf i n) : Ylds P η σ ⟨dst, .assign x, ty, pos, after, gd⟩ (.buf i n) := Y_copy (.inr rfl) h
theorem Y_assign_clo {x : Operand} {f : FuncId} {ids : List Nat} (h : oval σ x = .clo f ids) : Ylds P η σ ⟨dst, .assign x, ty, pos, after, gd⟩ (.clo f ids) := Y_copy (.inr rfl) h

theorem Y_pick_t {c x y : Operand} {d : D} (hc : oval σ c = .d (.val (.bool true))) (hx : oval σ x = .d d) : Ylds P η σ ⟨dst, .pick c x y, ty, pos, after, gd⟩ (.d d) := by
  refine Ylds.same fun g w a hi h => ⟨a.eval x, ?_, ?_⟩
  · have h1 := h c (by simp [Op.operands]); rw [hc] at h1
    simp [execOp, RepD.val_eq h1, asBool]
  · have h2 := h x (by simp [Op.operands]); rw [hx] at h2; exact h2
theorem Y_pick_f {c x y : Operand} {d : D} (hc : oval σ c = .d (.val (.bool false))) (hy : oval σ y = .d d) : Ylds P η σ ⟨dst, .pick c x y, ty, pos, after, gd⟩ (.d d) := by
  refine Ylds.same fun g w a hi h => ⟨a.eval y, ?_, ?_⟩
  · have h1 := h c (by simp [Op.operands]); rw [hc] at h1
    simp [execOp, RepD.val_eq h1, asBool]
  · have h2 := h y (by simp [Op.operands]); rw [hy] at h2; exact h2

/-! ### one or two plain values -/
theorem Y_bin {op : BinOp} {t yt : TypeId} {x y : Operand} {u v r : Value} (hx : oval σ x = .d (.val u)) (hy : oval σ y = .d (.val v))
    (hr : ∀ w, ((do eqGuard op t x y u v; binOp op t u v : Sem Value)).run P w = .ok r w) : Ylds P η σ ⟨dst, .binOp op t x y yt, ty, pos, after, gd⟩ (.d (.val r)) := by
  refine Ylds.same fun g w a hi h => ⟨r, ?_, .val r⟩
  have h1 := h x (by simp [Op.operands]); rw [hx] at h1
  have h2 := h y (by simp [Op.operands]); rw [hy] at h2
  have := hr w
  simp only [execOp, RepD.val_eq h1, RepD.val_eq h2, Sem.run_bind, Sem.run_pure] at this ⊢
  generalize (eqGuard op t x y u v).run P w = A at this ⊢
  cases A with
  | ok q w' => simp only [Result.andThen_ok] at this ⊢; rw [this]; rfl
  | halt q w' => simp only [Result.andThen_halt] at this; cases this

theorem Y_un {op : UnOp} {t : TypeId} {x : Operand} {u r : Value} (hx : oval σ x = .d (.val u)) (hr : Op.unary op u = pure r) : Ylds P η σ ⟨dst, .unOp op t x, ty, pos, after, gd⟩ (.d (.val r)) := by
  refine Ylds.same fun g w a hi h => ⟨r, ?_, .val r⟩
  have h1 := h x (by simp [Op.operands]); rw [hx] at h1
  simp [execOp, RepD.val_eq h1, hr]

variable {t yt : TypeId} {x y : Operand}
theorem Y_lss {k : IntKind} {m n : Int} (hx : oval σ x = .d (.val (.int k m))) (hy : oval σ y = .d (.val (.int k n))) : Ylds P η σ ⟨dst, .binOp .lss t x y yt, ty, pos, after, gd⟩ (.d (.val (.bool (decide (m < n))))) :=
  Y_bin hx hy fun w => by simp [go_sem, binOp_lss]
theorem Y_leq {k : IntKind} {m n : Int} (hx : oval σ x = .d (.val (.int k m))) (hy : oval σ y = .d (.val (.int k n))) : Ylds P η σ ⟨dst, .binOp .leq t x y yt, ty, pos, after, gd⟩ (.d (.val (.bool (decide (m ≤ n))))) :=
  Y_bin hx hy fun w => by simp [go_sem, binOp_leq]
theorem Y_gtr {k : IntKind} {m n : Int} (hx : oval σ x = .d (.val (.int k m))) (hy : oval σ y = .d (.val (.int k n))) : Ylds P η σ ⟨dst, .binOp .gtr t x y yt, ty, pos, after, gd⟩ (.d (.val (.bool (decide (m > n))))) :=
  Y_bin hx hy fun w => by simp [go_sem, binOp_gtr]
theorem Y_geq {k : IntKind} {m n : Int} (hx : oval σ x = .d (.val (.int k m))) (hy : oval σ y = .d (.val (.int k n))) : Ylds P η σ ⟨dst, .binOp .geq t x y yt, ty, pos, after, gd⟩ (.d (.val (.bool (decide (m ≥ n))))) :=
  Y_bin hx hy fun w => by simp [go_sem, binOp_geq]
theorem Y_eql {k : IntKind} {m n : Int} (hx : oval σ x = .d (.val (.int k m))) (hy : oval σ y = .d (.val (.int k n))) : Ylds P η σ ⟨dst, .binOp .eql t x y yt, ty, pos, after, gd⟩ (.d (.val (.bool (decide (m = n))))) :=
  Y_bin hx hy fun w => by
    simp only [go_sem, binOp_eql, eqGuard_at_int, Sem.run_bind, Sem.run_pure, Result.andThen_ok, Result.ok.injEq, Value.bool.injEq, and_true]
    by_cases h : m = n <;> simp [h]
theorem Y_neq {k : IntKind} {m n : Int} (hx : oval σ x = .d (.val (.int k m))) (hy : oval σ y = .d (.val (.int k n))) : Ylds P η σ ⟨dst, .binOp .neq t x y yt, ty, pos, after, gd⟩ (.d (.val (.bool (decide (m ≠ n))))) :=
  Y_bin hx hy fun w => by
    simp only [go_sem, binOp_neq, eqGuard_at_int, Sem.run_bind, Sem.run_pure, Result.andThen_ok, Result.ok.injEq, Value.bool.injEq, and_true]
    by_cases h : m = n <;> simp [h]
theorem wrap64_in {n : Int} (h1 : -9223372036854775808 ≤ n) (h2 : n ≤ 9223372036854775807) : IntKind.i64.wrap n = n := Go.IntWalk.i64_in n ⟨h1, h2⟩
theorem Y_add {m n : Int} (hx : oval σ x = .d (.val (.int .i64 m))) (hy : oval σ y = .d (.val (.int .i64 n))) (h1 : -9223372036854775808 ≤ m + n ∧ m + n ≤ 9223372036854775807) : Ylds P η σ ⟨dst, .binOp .add t x y yt, ty, pos, after, gd⟩ (.d (.val (.int .i64 (m + n)))) :=
  Y_bin hx hy fun w => by
    simp only [eqGuard_add, binOp_add, Op.intArith, Sem.run_bind, Sem.run_pure, Result.andThen_ok]
    rw [wrap64_in h1.1 h1.2]
theorem Y_sub {m n : Int} (hx : oval σ x = .d (.val (.int .i64 m))) (hy : oval σ y = .d (.val (.int .i64 n))) (h1 : -9223372036854775808 ≤ m - n ∧ m - n ≤ 9223372036854775807) : Ylds P η σ ⟨dst, .binOp .sub t x y yt, ty, pos, after, gd⟩ (.d (.val (.int .i64 (m - n)))) :=
  Y_bin hx hy fun w => by
    simp only [eqGuard_sub, binOp_sub, Op.intArith, Sem.run_bind, Sem.run_pure, Result.andThen_ok]
    rw [wrap64_in h1.1 h1.2]
theorem Y_mul {m n : Int} (hx : oval σ x = .d (.val (.int .i64 m))) (hy : oval σ y = .d (.val (.int .i64 n))) (h1 : -9223372036854775808 ≤ m * n ∧ m * n ≤ 9223372036854775807) : Ylds P η σ ⟨dst, .binOp .mul t x y yt, ty, pos, after, gd⟩ (.d (.val (.int .i64 (m * n)))) :=
  Y_bin hx hy fun w => by
    simp only [eqGuard_mul, binOp_mul, Op.intArith, Sem.run_bind, Sem.run_pure, Result.andThen_ok]
    rw [wrap64_in h1.1 h1.2]
theorem Y_addw {k : IntKind} {m n : Int} (hx : oval σ x = .d (.val (.int k m))) (hy : oval σ y = .d (.val (.int k n))) : Ylds P η σ ⟨dst, .binOp .add t x y yt, ty, pos, after, gd⟩ (.d (.val (.int k (k.wrap (m + n))))) :=
  Y_bin hx hy fun w => by simp only [eqGuard_add, binOp_add, Op.intArith, Sem.run_bind, Sem.run_pure, Result.andThen_ok]
theorem Y_subw {k : IntKind} {m n : Int} (hx : oval σ x = .d (.val (.int k m))) (hy : oval σ y = .d (.val (.int k n))) : Ylds P η σ ⟨dst, .binOp .sub t x y yt, ty, pos, after, gd⟩ (.d (.val (.int k (k.wrap (m - n))))) :=
  Y_bin hx hy fun w => by simp only [eqGuard_sub, binOp_sub, Op.intArith, Sem.run_bind, Sem.run_pure, Result.andThen_ok]
theorem Y_mulw {k : IntKind} {m n : Int} (hx : oval σ x = .d (.val (.int k m))) (hy : oval σ y = .d (.val (.int k n))) : Ylds P η σ ⟨dst, .binOp .mul t x y yt, ty, pos, after, gd⟩ (.d (.val (.int k (k.wrap (m * n))))) :=
  Y_bin hx hy fun w => by simp only [eqGuard_mul, binOp_mul, Op.intArith, Sem.run_bind, Sem.run_pure, Result.andThen_ok]
theorem Y_not {b : Bool} (hx : oval σ x = .d (.val (.bool b))) : Ylds P η σ ⟨dst, .unOp .not t x, ty, pos, after, gd⟩ (.d (.val (.bool (!b)))) := Y_un hx rfl

theorem Y_eqlb {a b : Bool} (hx : oval σ x = .d (.val (.bool a))) (hy : oval σ y = .d (.val (.bool b))) (hu : P.underlying t = some .bool) : Ylds P η σ ⟨dst, .binOp .eql t x y yt, ty, pos, after, gd⟩ (.d (.val (.bool (a == b)))) :=
  Y_bin hx hy fun w => by simp [eqGuard_at_bool, run_eql_bool w t a b hu]
theorem Y_neqb {a b : Bool} (hx : oval σ x = .d (.val (.bool a))) (hy : oval σ y = .d (.val (.bool b))) (hu : P.underlying t = some .bool) : Ylds P η σ ⟨dst, .binOp .neq t x y yt, ty, pos, after, gd⟩ (.d (.val (.bool (a != b)))) :=
  Y_bin hx hy fun w => by simp [eqGuard_at_bool, run_neq_bool w t a b hu]; cases a <;> cases b <;> rfl

/-! ### len -/
theorem Y_len_d {xs : List D} (hx : oval σ x = .d (.slice xs)) (hu : (elemTy P t).isSome = true) : Ylds P η σ ⟨dst, .call ⟨.builtin .len, #[x], #[t]⟩, ty, pos, after, gd⟩ (.d (.val (.int .i64 (xs.length : Int)))) := by
  obtain ⟨e, he⟩ := Option.isSome_iff_exists.1 hu
  refine Ylds.same fun g w a hi h => ⟨.int .i64 (xs.length : Int), ?_, .val _⟩
  have h1 := h x (by simp [Op.operands, Call.operands]); rw [hx] at h1
  change RepD _ _ _ _ at h1
  generalize hv : a.eval x = v at h1
  cases h1 with
  | slice ad len cap sz _ us hlen =>
    subst hlen
    simp [execOp, resolve, invoke, builtin, Builtin.len_, run_underlying (elemTy_some he), hv, goInt]
theorem Y_len_nil (hx : oval σ x = .nil) (hu : (elemTy P t).isSome = true) : Ylds P η σ ⟨dst, .call ⟨.builtin .len, #[x], #[t]⟩, ty, pos, after, gd⟩ (.d (.val (.int .i64 0))) := by
  obtain ⟨e, he⟩ := Option.isSome_iff_exists.1 hu
  refine Ylds.same fun g w a hi h => ⟨.int .i64 0, ?_, .val _⟩
  have h1 := h x (by simp [Op.operands, Call.operands]); rw [hx] at h1
  change _ = _ at h1
  simp [execOp, resolve, invoke, builtin, Builtin.len_, run_underlying (elemTy_some he), h1, goInt]
theorem Y_len_buf {i n : Nat} (hx : oval σ x = .buf i n) (hu : (elemTy P t).isSome = true) : Ylds P η σ ⟨dst, .call ⟨.builtin .len, #[x], #[t]⟩, ty, pos, after, gd⟩ (.d (.val (.int .i64 (n : Int)))) := by
  obtain ⟨e, he⟩ := Option.isSome_iff_exists.1 hu
  refine Ylds.same fun g w a hi h => ⟨.int .i64 (n : Int), ?_, .val _⟩
  have h1 := h x (by simp [Op.operands, Call.operands]); rw [hx] at h1
  obtain ⟨_, h1⟩ := h1
  simp [execOp, resolve, invoke, builtin, Builtin.len_, run_underlying (elemTy_some he), h1, goInt]
theorem Y_len_str {s : ByteArray} (hx : oval σ x = .d (.val (.string s))) (hu : P.underlying t = some .string) : Ylds P η σ ⟨dst, .call ⟨.builtin .len, #[x], #[t]⟩, ty, pos, after, gd⟩ (.d (.val (.int .i64 (s.size : Int)))) := by
  refine Ylds.same fun g w a hi h => ⟨.int .i64 (s.size : Int), ?_, .val _⟩
  have h1 := h x (by simp [Op.operands, Call.operands]); rw [hx] at h1
  simp [execOp, resolve, invoke, builtin, Builtin.len_, run_underlying hu, RepD.val_eq h1, goInt]

/-! ### max, min of two -/
theorem Y_max {k : IntKind} {m n : Int} {ts : Array TypeId} (hx : oval σ x = .d (.val (.int k m))) (hy : oval σ y = .d (.val (.int k n))) : Ylds P η σ ⟨dst, .call ⟨.builtin .max, #[x, y], ts⟩, ty, pos, after, gd⟩ (.d (.val (.int k (max m n)))) := by
  refine Ylds.same fun g w a hi h => ⟨.int k (max m n), ?_, .val _⟩
  have h1 := h x (by simp [Op.operands, Call.operands]); rw [hx] at h1
  have h2 := h y (by simp [Op.operands, Call.operands]); rw [hy] at h2
  simp [execOp, resolve, invoke, builtin, RepD.val_eq h1, RepD.val_eq h2, run_max_int2]; omega

/-! ### parts of a tuple, of an aggregate -/
theorem Y_extract {i : Nat} {ds : List D} {d : D} (hx : oval σ x = .d (.tup ds)) (hd : ds[i]? = some d) : Ylds P η σ ⟨dst, .extract x i, ty, pos, after, gd⟩ (.d d) := by
  refine Ylds.same fun g w a hi h => ?_
  have h1 := h x (by simp [Op.operands]); rw [hx] at h1
  change RepD _ _ _ _ at h1
  generalize hv : a.eval x = v at h1
  cases h1 with
  | tup vs cs hl hr =>
    have hlt : i < vs.length := by rw [hl]; exact (List.getElem?_eq_some_iff.1 hd).1
    refine ⟨vs[i], ?_, hr i _ _ (List.getElem?_eq_getElem hlt) hd⟩
    simp [execOp, hv, Instr.extract, hlt]

/-! ### places -/
theorem flats_len {xs : List D} {sz : Nat} (h : ∀ x ∈ xs, x.flat.length = sz) : (flats xs).length = xs.length * sz := by
  induction xs with
  | nil => simp [flats]
  | cons x r ih =>
    have h1 := h x (by simp)
    have h2 := ih (fun y hy => h y (by simp [hy]))
    simp only [flats, List.flatMap_cons, List.length_append, List.length_cons] at h2 ⊢
    rw [h1, h2, Nat.add_mul]; omega

theorem flats_at {sz : Nat} : ∀ {xs : List D} (_ : ∀ x ∈ xs, x.flat.length = sz) {i : Nat} {d : D} (_ : xs[i]? = some d) {j : Nat} (_ : j < sz), (flats xs)[i * sz + j]? = d.flat[j]?
  | [], _, i, d, hi, _, _ => by simp at hi
  | x :: r, h, 0, d, hi, j, hj => by
    simp at hi; subst hi
    have h1 := h x (by simp)
    simp only [flats, List.flatMap_cons]
    rw [List.getElem?_append_left (by omega)]; simp
  | x :: r, h, i + 1, d, hi, j, hj => by
    have h1 := h x (by simp)
    simp at hi
    have ih := flats_at (sz := sz) (xs := r) (fun y hy => h y (by simp [hy])) hi hj
    simp only [flats, List.flatMap_cons] at ih ⊢
    rw [List.getElem?_append_right (by rw [h1, Nat.add_mul]; omega)]
    rw [← ih, h1]; congr 1; rw [Nat.add_mul]; omega

theorem add_add' (a : Addr) (i j : Nat) : (a.add i).add j = a.add (i + j) := by
  unfold Addr.add
  by_cases hi : i = 0 <;> by_cases hj : j = 0 <;> simp [hi, hj, Nat.add_assoc]

theorem Cell.shift {St : Stab} {w : World} {ad : Addr} {i j : Nat} {u : Value} (h : Cell St w ad (i + j) u) : Cell St w (ad.add i) j u := by
  refine ⟨?_, by rw [add_add']; exact h.2⟩
  have := h.1
  unfold Addr.add
  by_cases hi : i = 0
  · subst hi; simpa using this
  · simp [hi]; simpa [Nat.add_assoc] using this

theorem list_drop_get {α : Type} (l : List α) (i j : Nat) : (l.drop i)[j]? = l[i + j]? := by simp

theorem Y_index {sz : Nat} {n : Int} {xs : List D} {d : D} {k : IntKind} (hx : oval σ x = .d (.slice xs)) (hy : oval σ y = .d (.val (.int k n))) (hs : elemSize P t = some sz) (h0 : 0 ≤ n) (hd : xs[n.toNat]? = some d) (hf : d.flat.length = sz) (hp : 0 < sz) :
    Ylds P η σ ⟨dst, .indexAddr t x y, ty, pos, after, gd⟩ (.rptr d.flat) := by
  obtain ⟨e, i, hu, hi', hsz'⟩ := elemSize_some hs
  refine Ylds.same fun g w a hi h => ?_
  have h1 := h x (by simp [Op.operands]); rw [hx] at h1
  have h2 := h y (by simp [Op.operands]); rw [hy] at h2
  change RepD _ _ _ _ at h1
  generalize hv : a.eval x = v at h1
  have hlt : n.toNat < xs.length := (List.getElem?_eq_some_iff.1 hd).1
  cases h1 with
  | slice ad len cap sz' _ us hlen hcap hm hsz hus h1c hcell hrep =>
    have hszz : sz' = sz := by rw [← hf]; exact (hsz d (List.mem_of_getElem? hd)).symm
    subst hszz
    obtain ⟨ad, rfl, hc⟩ := hcell (by omega)
    have hul : us.length = xs.length * sz' := by rw [hus, flats_len hsz]
    have hmul : (n.toNat + 1) * sz' ≤ xs.length * sz' := Nat.mul_le_mul_right _ (by omega)
    refine ⟨.pointer (some (ad.add (n.toNat * sz'))), ?_, ad.add (n.toNat * sz'), (us.drop (n.toNat * sz')).take sz', rfl, ?_, ?_, ?_, ?_⟩
    · have hb : 0 ≤ n ∧ n < (len : Int) := ⟨h0, by omega⟩
      simp [execOp, hv, RepD.val_eq h2, Instr.indexAt, asIntOf, run_underlying hu, hb.1, hb.2, sizeOf, typeInfo, hi', hsz']
    · rw [List.length_take, List.length_drop, hf, hul]; rw [Nat.add_mul] at hmul; omega
    · exact fun u hm => h1c u (List.mem_of_mem_drop (List.mem_of_mem_take hm))
    · intro j u hj
      rw [List.getElem?_take] at hj
      split at hj
      · rw [list_drop_get] at hj; exact (hc _ _ hj).shift
      · cases hj
    · intro j u d' hj hd'
      rw [List.getElem?_take] at hj
      split at hj
      · rename_i hlt'
        rw [list_drop_get] at hj
        exact hrep _ _ _ hj ((flats_at hsz hd hlt').trans hd')
      · cases hj

theorem Y_field_r {f off : Nat} {cs : List D} (hx : oval σ x = .rptr cs) (hf : fieldOff P t f = some off) : Ylds P η σ ⟨dst, .fieldAddr t x f, ty, pos, after, gd⟩ (.rptr (cs.drop off)) := by
  refine Ylds.same fun g w a hi h => ?_
  have h1 := h x (by simp [Op.operands]); rw [hx] at h1
  obtain ⟨ad, us, hv, hl, ho, hc, hr⟩ := h1
  unfold fieldOff at hf
  split at hf
  · rename_i fs hfs
    split at hf
    · rename_i fl hfl
      split at hf
      · rename_i i hi'
        split at hf
        · cases hf
        · rename_i hne
          injection hf with hf
          subst hf
          refine ⟨.pointer (some (ad.add fl.offset)), ?_, ad.add fl.offset, us.drop fl.offset, rfl, by simp [hl], fun u hm => ho u (List.mem_of_mem_drop hm), fun j u hj => ?_, fun j u d hj hd => ?_⟩
          · simp [execOp, hv, Instr.fieldAt, run_underlying hfs, hfl, Instr.sureAddr, fieldPlace, sizeOf, typeInfo, hi', hne]
          · rw [list_drop_get] at hj; exact (hc _ _ hj).shift
          · rw [list_drop_get] at hj hd; exact hr _ _ _ hj hd
      · cases hf
    · cases hf
  · cases hf

theorem tyCells_some {P : Program} {t : TypeId} {b : Bool} {n : Nat} (h : tyCells P t = some (b, n)) (w : World) : (isAgg t).run P w = .ok b w ∧ (sizeOf t).run P w = .ok n w := by
  unfold tyCells at h
  split at h
  · rename_i d i hd hi
    simp only [Option.some.injEq, Prod.mk.injEq] at h
    refine ⟨?_, by simp [sizeOf, typeInfo, hi, h.2]⟩
    unfold isAgg
    simp only [Sem.run_bind, run_underlying hd, Result.andThen_ok]
    rw [← h.1]
    cases d <;> rfl
  · cases h

theorem Y_load_r1 {cs : List D} {d : D} {n : Nat} (hx : oval σ x = .rptr (d :: cs)) (ht : tyCells P t = some (false, n)) : Ylds P η σ ⟨dst, .load t x, ty, pos, after, gd⟩ (.d d) := by
  refine Ylds.same fun g w a hi h => ?_
  have h1 := h x (by simp [Op.operands]); rw [hx] at h1
  obtain ⟨ad, us, hv, hl, ho, hc, hr⟩ := h1
  cases us with
  | nil => simp at hl
  | cons u us =>
    have h0 := (hc 0 u rfl).2
    refine ⟨u, ?_, hr 0 u d rfl rfl⟩
    simp only [Addr.add_zero'] at h0
    simp [execOp, hv, Instr.loadAt, Instr.sureAddr, loadVar, (tyCells_some ht w).1, h0]

theorem Y_load_r {cs : List D} {n : Nat} (hx : oval σ x = .rptr cs) (ht : tyCells P t = some (true, n)) (hn : Nat.ble n cs.length = true) : Ylds P η σ ⟨dst, .load t x, ty, pos, after, gd⟩ (.d (.agg (cs.take n))) := by
  have hn := Nat.le_of_ble_eq_true hn
  refine Ylds.same fun g w a hi h => ?_
  have h1 := h x (by simp [Op.operands]); rw [hx] at h1
  obtain ⟨ad, us, hv, hl, ho, hc, hr⟩ := h1
  have hrun := run_loadCells_list (P := P) w ad (us.take n) (fun j v hj => (hc j v (by rw [List.getElem?_take] at hj; split at hj <;> simp_all)).2)
  have hlen : (us.take n).length = n := by rw [List.length_take]; omega
  rw [hlen] at hrun
  refine ⟨.agg (us.take n).toArray, ?_, .agg _ _ (by simp [hl]) (fun u hm => ho u (List.mem_of_mem_take hm)) (fun j u d hj hd => ?_)⟩
  · simp only [execOp, hv, Instr.loadAt, Instr.sureAddr, loadVar, Sem.run_bind, Sem.run_pure, Result.andThen_ok, (tyCells_some ht w).1, (tyCells_some ht w).2, if_true, hrun]
  · rw [List.getElem?_take] at hj hd
    split at hj
    · rename_i hlt; rw [if_pos hlt] at hd; exact hr _ _ _ hj hd
    · cases hj
end

end Go.Sx
/- The engine: contracts of functions that change nothing that was there; calls; how a function is entered. -/
namespace Go.Sx
open Go.RowKit

def RepDs (St : Stab) (w : World) : List Value → List D → Prop
  | [], [] => True
  | v :: vs, d :: ds => RepD St w v d ∧ RepDs St w vs ds
  | _, _ => False

/-- What a call of f comes to: res, of data ds; nothing that was there has changed. -/
def PCall (P : Program) (f : FuncId) (ds : List D) (res : D) : Prop :=
  ∀ (St : Stab) (w : World) (vs : List Value), (∀ b o, St b o → b < w.heap.size) → Glob St w → RepDs St w vs ds →
    Calls P f vs.toArray w (fun e w' => ∃ v St', e = .returned v ∧ RepD St' w' v res ∧ Below w.heap.size w w' ∧ Keep St w St' w' ∧
      (∀ b o, St' b o → St b o ∨ w.heap.size ≤ b) ∧ (∀ b o, St' b o → b < w'.heap.size))

/-- what a slot holds, read as a datum -/
def Co (η : List Ob) (s : SV) (d : D) : Prop :=
  match s with
  | .d d' => d' = d
  | .nil => d = .slice [] ∨ d = .val (.slice none 0 0)
  | .buf id n => ∃ e sz xs, η[id]? = some (.buf false e sz xs) ∧ n ≤ xs.length ∧ d = .slice (xs.take n)
  | _ => False

theorem Co_d {η : List Ob} (d : D) : Co η (.d d) d := rfl
theorem Co_nil {η : List Ob} : Co η .nil (.slice []) := .inl rfl
theorem Co_buf {η : List Ob} {id n : Nat} {e sz : Nat} {xs : List D} (h : η[id]? = some (.buf false e sz xs)) (hn : n = xs.length) : Co η (.buf id n) (.slice xs) := ⟨e, sz, xs, h, by omega, by rw [hn, List.take_length]⟩

theorem flats_take {sz : Nat} : ∀ {xs : List D} (_ : ∀ x ∈ xs, x.flat.length = sz) (n : Nat), flats (xs.take n) = (flats xs).take (n * sz)
  | [], _, n => by simp [flats]
  | x :: r, h, 0 => by simp [flats]
  | x :: r, h, n + 1 => by
    have h1 := h x (by simp)
    have ih := flats_take (sz := sz) (xs := r) (fun y hy => h y (by simp [hy])) n
    simp only [flats, List.take_succ_cons, List.flatMap_cons] at ih ⊢
    have e1 : x.flat.take ((n + 1) * sz) = x.flat := List.take_of_length_le (by rw [h1, Nat.add_mul]; omega)
    have e2 : (n + 1) * sz - x.flat.length = n * sz := by rw [h1, Nat.add_mul]; omega
    rw [ih, List.take_append, e1, e2]

theorem Co.rep {η : List Ob} {g : Gh} {w : World} {v : Value} {s : SV} {d : D} (hi : Inv g w η) (h : RepS g w v s) (hc : Co η s d) : RepD g.St w v d := by
  unfold Co at hc
  split at hc
  · subst hc; exact h
  · change v = _ at h
    subst h
    rcases hc with rfl | rfl
    · exact .slice none 0 0 0 [] [] rfl (Nat.le_refl _) (Nat.zero_le _) (by simp) rfl (by simp) (by simp) (by simp)
    · exact .val _
  · rename_i id n
    obtain ⟨e, sz, xs, ho, hn, rfl⟩ := hc
    obtain ⟨hs, hf, hm, hl, hb⟩ := hi.ob id _ ho
    obtain ⟨_, rfl⟩ := h
    have hlen : (xs.take n).length = n := by rw [List.length_take]; omega
    rcases hb with ⟨hb, hc0⟩ | ⟨b, us, hb, hh, hsz, h1, hr, hst⟩
    · have hx : xs = [] := List.eq_nil_of_length_eq_zero (by omega)
      subst hx
      have hn0 : n = 0 := by simpa using hn
      subst hn0
      refine .slice _ 0 _ 0 _ [] (by simp) (Nat.zero_le _) hm (by simp) (by simp [flats]) (by simp) (by simp) (by simp)
    · have hul : xs.length * sz ≤ us.size := by rw [hsz]; exact Nat.mul_le_mul_right _ hl
      have hnl : n * sz ≤ xs.length * sz := Nat.mul_le_mul_right _ hn
      have hft := flats_take hf n
      refine .slice _ n _ sz _ (us.toList.take (n * sz)) hlen.symm (by omega) hm (fun x hx => hf x (List.mem_of_mem_take hx)) ?_ ?_ ?_ ?_
      · rw [hft, List.length_take, List.length_take, flats_len hf, Array.length_toList]; omega
      · intro u hu
        obtain ⟨j, hj, rfl⟩ := List.mem_iff_getElem.1 hu
        rw [List.getElem_take]
        rw [List.length_take, Array.length_toList] at hj
        exact h1 j _ (by omega) (by rw [Array.getElem_toList]; exact Array.getElem?_eq_getElem (by omega))
      · intro _
        refine ⟨⟨b, 0, none⟩, by rw [hb]; rfl, fun j u hj => ?_⟩
        rw [List.getElem?_take] at hj
        split at hj
        · rename_i hlt
          refine ⟨(hst _).2 ⟨rfl, by simp; omega⟩, ?_⟩
          rw [Addr.add_lit, Nat.zero_add, cell_of_row w b j us e (0, 0) hh]
          simpa using hj
        · cases hj
      · intro j u d hj hd
        rw [hft] at hd
        rw [List.getElem?_take] at hj hd
        split at hj
        · rename_i hlt
          rw [if_pos hlt] at hd
          exact hr j u d (by simpa using hj) hd
        · cases hj
  · exact hc.elim

/-- the arguments of a call, read as data -/
def CoL (η : List Ob) (σ : Sl) : List Operand → List D → Prop
  | [], [] => True
  | x :: xs, d :: ds => Co η (oval σ x) d ∧ CoL η σ xs ds
  | _, _ => False

theorem CoL_nil {η : List Ob} {σ : Sl} : CoL η σ [] [] := trivial
theorem CoL_d {η : List Ob} {σ : Sl} {x : Operand} {xs : List Operand} {d : D} {ds : List D} (h : oval σ x = .d d) (r : CoL η σ xs ds) : CoL η σ (x :: xs) (d :: ds) := ⟨by rw [h]; rfl, r⟩
theorem CoL_n {η : List Ob} {σ : Sl} {x : Operand} {xs : List Operand} {ds : List D} (h : oval σ x = .nil) (r : CoL η σ xs ds) : CoL η σ (x :: xs) (.slice [] :: ds) := ⟨by rw [h]; exact .inl rfl, r⟩
theorem CoL_v {η : List Ob} {σ : Sl} {x : Operand} {xs : List Operand} {ds : List D} (h : oval σ x = .nil) (r : CoL η σ xs ds) : CoL η σ (x :: xs) (.val (.slice none 0 0) :: ds) := ⟨by rw [h]; exact .inr rfl, r⟩
theorem CoL_b {η : List Ob} {σ : Sl} {x : Operand} {xs : List Operand} {ys : List D} {ds : List D} {id n : Nat} {e sz : Nat} (h : oval σ x = .buf id n) (ho : η[id]? = some (.buf false e sz ys)) (hn : n = ys.length) (r : CoL η σ xs ds) : CoL η σ (x :: xs) (.slice ys :: ds) :=
  ⟨by rw [h]; exact Co_buf ho hn, r⟩

theorem CoL.rep {η : List Ob} {σ : Sl} {g : Gh} {w : World} {a : Act} (hi : Inv g w η) : ∀ (xs : List Operand) (ds : List D), (∀ x ∈ xs, RepS g w (a.eval x) (oval σ x)) → CoL η σ xs ds → RepDs g.St w (xs.map a.eval) ds
  | [], [], _, _ => trivial
  | x :: xs, d :: ds, h, hc => ⟨hc.1.rep hi (h x (by simp)), CoL.rep hi xs ds (fun y hy => h y (by simp [hy])) hc.2⟩
  | [], _ :: _, _, hc => hc.elim
  | _ :: _, [], _, hc => hc.elim

theorem callFunc_run {P : Program} {f : FuncId} {fn : Func} {args : Array Value} {w : World} (hf : P.funcs[f]? = some fn) (hb : fn.body.isNone = false) (hn : (fn.name == "runtime.NumGoroutine") = false) : (callFunc f args).run P w = .ok (.enter f args) w := by
  unfold callFunc
  simp only [Sem.run_bind, run_program, Result.andThen_ok, hf, hn, hb, Bool.false_eq_true, if_false]
  rfl

/-- is f a function with a body (and not the one that the model does itself)? -/
def hasBody (P : Program) (f : FuncId) : Bool :=
  match P.funcs[f]? with
  | some fn => !fn.body.isNone && !(fn.name == "runtime.NumGoroutine")
  | none => false

theorem hasBody_run {P : Program} {f : FuncId} {args : Array Value} {w : World} (h : hasBody P f = true) : (callFunc f args).run P w = .ok (.enter f args) w := by
  unfold hasBody at h
  split at h
  · rename_i fn hf
    simp only [Bool.and_eq_true, Bool.not_eq_true'] at h
    exact callFunc_run hf h.1 h.2
  · cases h

section
variable {P : Program} {η : List Ob} {σ : Sl} {dst : Option Nat} {ty : TypeId} {pos : String} {after : Array Edge} {gd : Option (Nat × Bool)}

theorem Y_call {f : FuncId} {args : List Operand} {ts : Array TypeId} {ds : List D} {res : D} (hb : hasBody P f = true) (hc : PCall P f ds res) (ha : CoL η σ args ds) :
    Ylds P η σ ⟨dst, .call ⟨.value (.func f), args.toArray, ts⟩, ty, pos, after, gd⟩ (.d res) := by
  intro g w a hi hx
  have hr := CoL.rep (a := a) hi args ds (fun x hm => hx x (by simp [Op.operands, Call.operands, hm])) ha
  refine .inr ⟨f, (args.map a.eval).toArray, ?_, ?_⟩
  · simp only [execOp, resolve, Act.eval, Deferred.ofValue, invoke, Sem.run_bind, Sem.run_pure, Result.andThen_ok, List.map_toArray, Array.empty_append, Array.append_empty]
    exact hasBody_run hb
  · refine (hc g.St w _ hi.st hi.gl hr).mono fun e w' ⟨v, St', he, hrep, hbel, hkeep, hnew, hlt⟩ => ?_
    exact ⟨v, { g with St := St' }, he, ⟨rfl, rfl, rfl, rfl, hbel.os, hbel.tape, hbel.output, hbel.size, hbel.block, hkeep.sub, hnew, hlt⟩, hrep⟩
end

/-- the slots at the beginning -/
def args0 : List D → Nat → Sl
  | [], _ => []
  | d :: ds, k => (k, .d d) :: args0 ds (k + 1)

def ResOk (rs : Array ResultVar) (σ : Sl) (η : List Ob) (res : D) : Prop :=
  match rs.toList, res with
  | [.tmp r], d => Co η (get σ r) d
  | [.tmp r, .tmp s], .tup [d1, d2] => Co η (get σ r) d1 ∧ Co η (get σ s) d2
  | [.tmp r, .tmp s, .tmp t], .tup [d1, d2, d3] => Co η (get σ r) d1 ∧ Co η (get σ s) d2 ∧ Co η (get σ t) d3
  | _, _ => False

def rpost (rs : Array ResultVar) (res : D) : Exit → Sl → List Ob → Prop
  | .ret, σ, η => ResOk rs σ η res
  | .normal, σ, η => ResOk rs σ η res
  | _, _, _ => False

theorem rpost_ret {rs : Array ResultVar} {res : D} {σ : Sl} {η : List Ob} (h : ResOk rs σ η res) : rpost rs res .ret σ η := h

theorem ResOk.run {rs : Array ResultVar} {σ : Sl} {η : List Ob} {res : D} {P : Program} {fn : Func} {g : Gh} {w : World} {a : Act} {C : Ctx} (hrs : fn.results = rs) (h : ResOk rs σ η res) (ha : AbsG C g σ η a w) : ∃ v, (results fn a.tmps).run P w = .ok v w ∧ RepD g.St w v res := by
  obtain ⟨rl⟩ := rs
  unfold ResOk at h
  split at h
  · rename_i r hr
    simp at hr; subst hr
    exact ⟨_, results_tmp hrs _ _ _, h.rep ha.inv (ha.rep _)⟩
  · rename_i r s d1 d2 hr
    simp at hr; subst hr
    refine ⟨_, results_tmp2 hrs _ _ _, ?_⟩
    refine .tup [_, _] _ rfl fun j u d hu hd => ?_
    match j with
    | 0 => simp at hu hd; subst hu; subst hd; exact h.1.rep ha.inv (by simpa using ha.rep r)
    | 1 => simp at hu hd; subst hu; subst hd; exact h.2.rep ha.inv (by simpa using ha.rep s)
    | j + 2 => simp at hu
  · rename_i r s t d1 d2 d3 hr
    simp at hr; subst hr
    refine ⟨_, results_tmp3 hrs _ _ _, ?_⟩
    refine .tup [_, _, _] _ rfl fun j u d hu hd => ?_
    match j with
    | 0 => simp at hu hd; subst hu; subst hd; exact h.1.rep ha.inv (by simpa using ha.rep r)
    | 1 => simp at hu hd; subst hu; subst hd; exact h.2.1.rep ha.inv (by simpa using ha.rep s)
    | 2 => simp at hu hd; subst hu; subst hd; exact h.2.2.rep ha.inv (by simpa using ha.rep t)
    | j + 3 => simp at hu
  · exact h.elim

theorem RepDs.len {St : Stab} {w : World} : ∀ {vs : List Value} {ds : List D}, RepDs St w vs ds → vs.length = ds.length
  | [], [], _ => rfl
  | _ :: _, _ :: _, h => by simp [RepDs.len h.2]
  | [], _ :: _, h => h.elim
  | _ :: _, [], h => h.elim

theorem args0_rep {g : Gh} {w : World} : ∀ (vs : List Value) (ds : List D) (k : Nat) (f : Nat → Value), RepDs g.St w vs ds → (∀ j v, vs[j]? = some v → f (k + j) = v) → ∀ t, RepS g w (f t) (get (args0 ds k) t)
  | [], [], _, _, _, _, _ => trivial
  | v :: vs, d :: ds, k, f, h, hf, t => by
    unfold args0
    rw [get_cons]
    split
    · rename_i e; subst e
      have := hf 0 v rfl
      rw [Nat.add_zero] at this
      rw [this]; exact h.1
    · exact args0_rep vs ds (k + 1) f h.2 (fun j v' hj => by rw [← hf (j + 1) v' hj]; congr 1; omega) t
  | [], _ :: _, _, _, h, _, _ => h.elim
  | _ :: _, [], _, _, h, _, _ => h.elim

/-- A FUNCTION IS ENTERED. -/
theorem pcall_of {P : Program} {f : FuncId} {fn : Func} {c : Code} {ds : List D} {res : D} {N : Nat} {rs : Array ResultVar} (hf : P.funcs[f]? = some fn) (hb : fn.body = some c) (hN : fn.ntmps = N) (hrs : fn.results = rs) (hl : Nat.ble ds.length N = true)
    (h : ∀ (w0 : World) (St0 : Stab), awp ⟨P, N, w0, St0, fun _ => False, 0⟩ c (rpost rs res) (args0 ds 0) []) : PCall P f ds res := by
  intro St w vs hst hgl hrep
  subst hN
  have hl := Nat.le_of_ble_eq_true hl
  have hlen := hrep.len
  refine calls_of_wp hf hb (h w St _ ?_ _ _ ?_)
  · intro e σ' η' a' w' hq ⟨g, ha⟩
    have fin : ResOk rs σ' η' res → a'.defers = [] ∧ ∃ v, (results fn a'.tmps).run P w' = .ok v w' ∧ ∃ v_1 St', Ending.returned v = .returned v_1 ∧ RepD St' w' v_1 res ∧ Below w.heap.size w w' ∧ Keep St w St' w' ∧
      (∀ b o, St' b o → St b o ∨ w.heap.size ≤ b) ∧ (∀ b o, St' b o → b < w'.heap.size) := by
      intro hq
      obtain ⟨v, hr, hd⟩ := hq.run (P := P) hrs ha
      refine ⟨ha.defers, v, hr, v, g.St, rfl, hd, ⟨ha.os, ha.tape, ha.output, ha.wsize, fun k hk => ha.heap k hk (fun h => h)⟩, ha.keep, fun b o hb => ?_, ha.inv.st⟩
      rcases ha.new b o hb with h1 | h1 | h1
      · exact .inl h1
      · exact .inr h1
      · exact h1.elim
    cases e <;> first | exact fin hq | exact hq.elim
  · refine ⟨⟨St, fun _ => none, fun _ => 0, fun _ => 0, 0⟩, rfl, ?_, ⟨rfl, fun _ _ h => by simp at h, fun _ _ => rfl, fun _ _ _ h => by simp at h, fun _ _ h => by simp at h, hst, hgl⟩, rfl, rfl, rfl, Nat.le_refl _, fun _ _ _ => rfl, Keep.refl St w, fun _ _ h => .inl h, fun _ _ h => by simp at h, ?_⟩
    · simp [hlen]; omega
    · refine args0_rep vs ds 0 _ hrep fun j v hj => ?_
      have hjl : j < vs.length := (List.getElem?_eq_some_iff.1 hj).1
      simp only [Nat.zero_add, Array.getD_eq_getD_getElem?]
      rw [Array.getElem?_append_left (by simpa using hjl)]
      simp [hj]

end Go.Sx
/- The engine: the steps, as they are met in a proof. -/
namespace Go.Sx
section
variable {C : Ctx} {dr : Bool} {ops : Array Oper} {rest : List Oper} {K : Sl → List Ob → Prop} {σ : Sl} {η : List Ob} {s : SV} {d : Nat} {op : Op} {ty : TypeId} {pos : String} {after : Array Edge}

/-- operation o is carried out next -/
def astep (C : Ctx) (dr : Bool) (ops : Array Oper) (o : Oper) (rest : List Oper) (K : Sl → List Ob → Prop) (σ : Sl) (η : List Ob) : Prop :=
  match dr with
  | true => (∃ s, Ylds C.P η σ o s ∧ DstOk C.N o.dst ∧ alexD C ops rest K (put σ o.dst s) η) ∨ (barOk ops rest.length = true ∧ EStep C o (alexD C ops rest K) σ η)
  | false => ∀ (Q : Exit → Act → World → Prop), (∀ σ' η' a w, K σ' η' → Abs C σ' η' a w → Q .normal a w) → ∀ a w, Abs C σ η a w → ∀ K' : Act → World → Prop, (∀ a w, wpList C.P ops Q rest a w → K' a w) → o.wp C.P a w K' Q

theorem alex_step {o : Oper} (hw : Wants ops σ o.guard true) (h : astep C dr ops o rest K σ η) : alex C dr ops (o :: rest) K σ η := by
  cases dr with
  | true =>
    rcases h with ⟨s, h1, h2, h3⟩ | ⟨h1, h2⟩
    · exact .inl ⟨s, .inl ⟨hw, h1⟩, h2, h3⟩
    · exact .inr ⟨h1, hw, h2⟩
  | false =>
    intro Q hQ a w hab
    refine wpList_step fun K' hK' => ?_
    obtain ⟨g, ha⟩ := hab
    rw [if_pos (hw.wanted fun t _ _ _ _ => ha.rep t)]
    exact h Q hQ a w ⟨g, ha⟩ K' hK'

theorem wp_monoQ {P : Program} {o : Oper} {a : Act} {w : World} {K : Act → World → Prop} {Q Q' : Exit → Act → World → Prop} (h : ∀ e a w, e ≠ .normal → Q e a w → Q' e a w) (hh : o.wp P a w K Q) : o.wp P a w K Q' := by
  unfold Oper.wp at *
  generalize (execOp a.eval o).run P w = r at *
  cases r with
  | ok n w' =>
    cases n <;> simp only [Oper.upon] at hh ⊢ <;>
      first
        | exact hh
        | exact Calls.mono hh (fun e w'' he => by
            cases e with
            | returned v => exact he
            | panicked ch => exact h _ _ _ (by simp) he
            | outgrown => obtain ⟨a, w, hq⟩ := he; exact ⟨a, w, h _ _ _ (by simp) hq⟩)
  | halt x w' => cases x <;> simp only [Oper.upon] at hh ⊢ <;> first | exact h _ _ _ (by simp) hh | exact hh
/-- an operation that turns objects, in a region that draws its order: it comes up behind all ahead of it and ahead of all behind it -/
theorem a_bar {o : Oper} (hb : barOk ops rest.length = true) (h : astep C false ops o [] (fun σ' η' => alex C true ops rest K σ' η') σ η) : astep C true ops o rest K σ η := by
  refine .inr ⟨hb, fun Q a w hab => ?_⟩
  have := h (fun e a w => match e with | .normal => ∃ σ' η', alexD C ops rest K σ' η' ∧ Abs C σ' η' a w | e => Q e a w) (fun σ' η' a w hk hab => ⟨σ', η', hk, hab⟩) a w hab (fun a w => ∃ σ' η', alexD C ops rest K σ' η' ∧ Abs C σ' η' a w) (fun a w hw => hw)
  exact wp_monoQ (fun e a w hne hq => by cases e <;> first | exact absurd rfl hne | exact hq) this

theorem w0 (h : astep C dr ops ⟨some d, op, ty, pos, after, none⟩ rest K σ η) : alex C dr ops (⟨some d, op, ty, pos, after, none⟩ :: rest) K σ η :=
  alex_step (show Wants _ _ none true from rfl) h
theorem w0' (h : astep C dr ops ⟨none, op, ty, pos, after, none⟩ rest K σ η) : alex C dr ops (⟨none, op, ty, pos, after, none⟩ :: rest) K σ η :=
  alex_step (show Wants _ _ none true from rfl) h
theorem w1 {j : Nat} {want : Bool} {t : Nat} (h1 : (ops[j]?).bind (·.dst) = some t) (h2 : get σ t = .d (.val (.bool want))) (h : astep C dr ops ⟨some d, op, ty, pos, after, some (j, want)⟩ rest K σ η) :
    alex C dr ops (⟨some d, op, ty, pos, after, some (j, want)⟩ :: rest) K σ η :=
  alex_step (show Wants _ _ (some (j, want)) true from ⟨t, h1, by simpa using h2⟩) h
theorem k1 {j : Nat} {t : Nat} (h1 : (ops[j]?).bind (·.dst) = some t) (h2 : get σ t = .d (.val (.bool false))) (hd : Nat.blt d C.N = true) (h : alex C dr ops rest K ((d, .top) :: σ) η) :
    alex C dr ops (⟨some d, op, ty, pos, after, some (j, true)⟩ :: rest) K σ η :=
  alex_skipW (show Wants _ _ (some (j, true)) false from ⟨t, h1, by simpa using h2⟩) hd h
theorem k0 {j : Nat} {t : Nat} (h1 : (ops[j]?).bind (·.dst) = some t) (h2 : get σ t = .d (.val (.bool true))) (hd : Nat.blt d C.N = true) (h : alex C dr ops rest K ((d, .top) :: σ) η) :
    alex C dr ops (⟨some d, op, ty, pos, after, some (j, false)⟩ :: rest) K σ η :=
  alex_skipW (show Wants _ _ (some (j, false)) false from ⟨t, h1, by simpa using h2⟩) hd h
/-- a guard that is not decided yet -/
theorem g1 {j : Nat} {want : Bool} {t : Nat} {b : Bool} (_h1 : (ops[j]?).bind (·.dst) = some t) (h2 : get σ t = .d (.val (.bool b)))
    (ht : b = true → alex C dr ops (⟨some d, op, ty, pos, after, some (j, want)⟩ :: rest) K ((t, .d (.val (.bool true))) :: σ) η)
    (hf : b = false → alex C dr ops (⟨some d, op, ty, pos, after, some (j, want)⟩ :: rest) K ((t, .d (.val (.bool false))) :: σ) η) :
    alex C dr ops (⟨some d, op, ty, pos, after, some (j, want)⟩ :: rest) K σ η := alex_split t h2 ht hf

variable {gd : Option (Nat × Bool)} {t yt : TypeId} {x y z : Operand}
theorem ay (hd : Nat.blt d C.N = true) (hy : Ylds C.P η σ ⟨some d, op, ty, pos, after, gd⟩ s) (h : alex C dr ops rest K ((d, s) :: σ) η) : astep C dr ops ⟨some d, op, ty, pos, after, gd⟩ rest K σ η := by
  cases dr with
  | true => exact .inl ⟨s, hy, hd, h⟩
  | false => exact fun Q hQ a w ⟨g, ha⟩ K' hK' => hy.wp (o := ⟨some d, op, ty, pos, after, gd⟩) hd (fun a w hab => hK' a w (h Q hQ a w hab)) ha

end

section
variable {K : Sl → List Ob → Prop} {Q : Exit → Sl → List Ob → Prop} {σ : Sl} {η : List Ob}
theorem en_n (h : K σ η) : athen K Q .normal σ η := h
theorem en_r (h : Q .ret σ η) : athen K Q .ret σ η := h
theorem en_e {i : Nat} (h : Q (.exit i) σ η) : athen K Q (.exit i) σ η := h
theorem en_g {i : Nat} (h : Q (.goto i) σ η) : athen K Q (.goto i) σ η := h
theorem eb_n {i : Nat} (h : Q .normal σ η) : ablock i Q .normal σ η := h
theorem eb_r {i : Nat} (h : Q .ret σ η) : ablock i Q .ret σ η := h
theorem eb_g {i j : Nat} (h : Q (.goto j) σ η) : ablock i Q (.goto j) σ η := h
theorem eb_e {i : Nat} (h : Q .normal σ η) : ablock i Q (.exit i) σ η := by simp only [ablock, if_true]; exact h
theorem eb_o {i j : Nat} (hj : Nat.beq j i = false) (h : Q (.exit j) σ η) : ablock i Q (.exit j) σ η := by
  have hne : j ≠ i := fun e => by subst e; simp at hj
  simp only [ablock, if_neg hne]; exact h
theorem ej_n {l : Nat} (h : Q .normal σ η) : ajump l K Q .normal σ η := h
theorem ej_r {l : Nat} (h : Q .ret σ η) : ajump l K Q .ret σ η := h
theorem ej_e {l i : Nat} (h : Q (.exit i) σ η) : ajump l K Q (.exit i) σ η := h
theorem ej_g {l : Nat} (h : K σ η) : ajump l K Q (.goto l) σ η := ⟨rfl, h⟩
end

section
variable {C : Ctx} {Q : Exit → Sl → List Ob → Prop} {σ : Sl} {η : List Ob} {x : Operand} {c d : Code}
theorem awp_condT (hx : oval σ x = .d (.val (.bool true))) (h : awp C c Q σ η) : awp C (.cond x c d) Q σ η := awp_cond hx (fun _ => h) (fun h => by cases h)
theorem awp_condF (hx : oval σ x = .d (.val (.bool false))) (h : awp C d Q σ η) : awp C (.cond x c d) Q σ η := awp_cond hx (fun h => by cases h) (fun _ => h)
theorem awp_condD {p : Prop} {ip : Decidable p} (hx : oval σ x = .d (.val (.bool (decide p)))) (h1 : p → awp C c Q σ η) (h2 : ¬ p → awp C d Q σ η) : awp C (.cond x c d) Q σ η :=
  awp_cond hx (fun h => h1 (of_decide_eq_true h)) (fun h => h2 (of_decide_eq_false h))
theorem awp_condN {p : Prop} {ip : Decidable p} (hx : oval σ x = .d (.val (.bool (!decide p)))) (h1 : ¬ p → awp C c Q σ η) (h2 : p → awp C d Q σ η) : awp C (.cond x c d) Q σ η :=
  awp_cond hx (fun h => h1 (by simpa using h)) (fun h => h2 (by simpa using h))
end

section
variable {C : Ctx} {dr : Bool} {ops : Array Oper} {rest : List Oper} {K : Sl → List Ob → Prop} {σ : Sl} {η : List Ob} {s : SV} {d : Nat} {op : Op} {ty : TypeId} {pos : String} {after : Array Edge} {j : Nat} {want : Bool} {t : Nat} {p : Prop}
theorem gD {ip : Decidable p} (_h1 : (ops[j]?).bind (·.dst) = some t) (h2 : get σ t = .d (.val (.bool (decide p))))
    (ht : p → alex C dr ops (⟨some d, op, ty, pos, after, some (j, want)⟩ :: rest) K ((t, .d (.val (.bool true))) :: σ) η)
    (hf : ¬ p → alex C dr ops (⟨some d, op, ty, pos, after, some (j, want)⟩ :: rest) K ((t, .d (.val (.bool false))) :: σ) η) :
    alex C dr ops (⟨some d, op, ty, pos, after, some (j, want)⟩ :: rest) K σ η := alex_split t h2 (fun h => ht (of_decide_eq_true h)) (fun h => hf (of_decide_eq_false h))
theorem gN {ip : Decidable p} (_h1 : (ops[j]?).bind (·.dst) = some t) (h2 : get σ t = .d (.val (.bool (!decide p))))
    (ht : ¬ p → alex C dr ops (⟨some d, op, ty, pos, after, some (j, want)⟩ :: rest) K ((t, .d (.val (.bool true))) :: σ) η)
    (hf : p → alex C dr ops (⟨some d, op, ty, pos, after, some (j, want)⟩ :: rest) K ((t, .d (.val (.bool false))) :: σ) η) :
    alex C dr ops (⟨some d, op, ty, pos, after, some (j, want)⟩ :: rest) K σ η := alex_split t h2 (fun h => ht (by simpa using h)) (fun h => hf (by simpa using h))
end

section
variable {P : Program} {η : List Ob} {σ : Sl} {dst : Option Nat} {ty : TypeId} {pos : String} {after : Array Edge} {gd : Option (Nat × Bool)} {x : Operand} {t : TypeId}
theorem Y_len_m {α : Type} {enc : α → D} {L : List α} (hx : oval σ x = .d (.slice (L.map enc))) (hu : (elemTy P t).isSome = true) : Ylds P η σ ⟨dst, .call ⟨.builtin .len, #[x], #[t]⟩, ty, pos, after, gd⟩ (.d (.val (.int .i64 (L.length : Int)))) := by
  have := Y_len_d (dst := dst) (ty := ty) (pos := pos) (after := after) (gd := gd) (η := η) hx hu
  rwa [List.length_map] at this
end

section
variable {η : List Ob} {σ : Sl}
theorem Le_nil : Le [] σ := fun _ => .inr rfl
theorem Le_cons {k : Nat} {s : SV} {r : Sl} (h : get σ k = s) (hr : Le r σ) : Le ((k, s) :: r) σ := fun t => by
  rw [get_cons]; split
  · rename_i e; subst e; exact .inl h.symm
  · exact hr t
theorem res1 {r : Nat} {d d' : D} (h : get σ r = .d d') (e : d' = d) : ResOk #[.tmp r] σ η d := by subst e; show Co η (get σ r) d'; rw [h]; rfl
theorem res1n {r : Nat} {d : D} (h : get σ r = .nil) (e : D.slice [] = d) : ResOk #[.tmp r] σ η d := by subst e; show Co η (get σ r) _; rw [h]; exact .inl rfl
theorem res1b {r : Nat} {d : D} {id n e sz : Nat} {xs : List D} (h : get σ r = .buf id n) (ho : η[id]? = some (.buf false e sz xs)) (hn : n = xs.length) (he : D.slice xs = d) : ResOk #[.tmp r] σ η d := by subst he; show Co η (get σ r) _; rw [h]; exact Co_buf ho hn
theorem res2 {r r2 : Nat} {d1 d2 d1' d2' : D} (h1 : get σ r = .d d1') (h2 : get σ r2 = .d d2') (e1 : d1' = d1) (e2 : d2' = d2) : ResOk #[.tmp r, .tmp r2] σ η (.tup [d1, d2]) := by
  subst e1; subst e2; show Co η (get σ r) _ ∧ Co η (get σ r2) _; rw [h1, h2]; exact ⟨rfl, rfl⟩
theorem res2n {r r2 : Nat} {d1 d2 d2' : D} (h1 : get σ r = .nil) (h2 : get σ r2 = .d d2') (e1 : D.slice [] = d1) (e2 : d2' = d2) : ResOk #[.tmp r, .tmp r2] σ η (.tup [d1, d2]) := by
  subst e1; subst e2; show Co η (get σ r) _ ∧ Co η (get σ r2) _; rw [h1, h2]; exact ⟨.inl rfl, rfl⟩
theorem res2b {r r2 : Nat} {d1 d2 d2' : D} {id n e sz : Nat} {xs : List D} (h1 : get σ r = .buf id n) (ho : η[id]? = some (.buf false e sz xs)) (hn : n = xs.length) (h2 : get σ r2 = .d d2') (e1 : D.slice xs = d1) (e2 : d2' = d2) : ResOk #[.tmp r, .tmp r2] σ η (.tup [d1, d2]) := by
  subst e1; subst e2; show Co η (get σ r) _ ∧ Co η (get σ r2) _; rw [h1, h2]; exact ⟨Co_buf ho hn, rfl⟩
end

end Go.Sx
/- The engine: a region that draws its order. One walk of the order of the text serves every order. -/
namespace Go.Sx

def drawOk (l : List Oper) : Bool :=
  (List.range l.length).all fun j => match l[j]? with
    | none => true
    | some oj => (match oj.op with | .select _ _ => false | _ => true) &&
      oj.after.all (fun e => !Region.binds .any e || decide (e.on < j)) &&
      (List.range j).all fun k => match l[k]? with
        | some ok => oj.after.any (fun e => Region.binds .any e && e.on == k) || ok.apart l.toArray oj
        | none => true

/-- the state in which just those operations have come up for which f holds -/
def pst : Sl → Nat → List Oper → List SV → (Nat → Bool) → Sl
  | σ, k, o :: l, s :: ss, f => pst (match f k with | true => put σ o.dst s | false => σ) (k + 1) l ss f
  | σ, _, _, _, _ => σ

theorem get_put_ne {σ : Sl} {d : Option Nat} {s : SV} {t : Nat} (h : d ≠ some t) : get (put σ d s) t = get σ t := by
  cases d with
  | none => rfl
  | some d => rw [put, get_cons, if_neg (fun e => h (by rw [e]))]

theorem pst_congr (t : Nat) : ∀ (l : List Oper) (ss : List SV) (σ σ' : Sl) (k : Nat) (f g : Nat → Bool), get σ t = get σ' t →
    (∀ i o, l[i]? = some o → f (k + i) ≠ g (k + i) → o.dst ≠ some t) → get (pst σ k l ss f) t = get (pst σ' k l ss g) t
  | [], _, _, _, _, _, _, h, _ => by simpa [pst] using h
  | _ :: _, [], _, _, _, _, _, h, _ => by simpa [pst] using h
  | o :: l, s :: ss, σ, σ', k, f, g, h, hd => by
    unfold pst
    refine pst_congr t l ss _ _ (k + 1) f g ?_ (fun i o' hi hne => hd (i + 1) o' (by simpa using hi) (by rw [show k + (i + 1) = k + 1 + i by omega]; exact hne))
    have h0 := hd 0 o rfl
    rw [Nat.add_zero] at h0
    have hput : ∀ {τ τ' : Sl}, get τ t = get τ' t → get (put τ o.dst s) t = get (put τ' o.dst s) t := by
      intro τ τ' e
      cases hdst : o.dst with
      | none => exact e
      | some d => simp only [put, get_cons, e]
    cases hf : f k <;> cases hg : g k <;> simp only []
    · exact h
    · rw [get_put_ne (h0 (by rw [hf, hg]; simp))]; exact h
    · rw [get_put_ne (h0 (by rw [hf, hg]; simp))]; exact h
    · exact hput h

/-- one more comes up, and none behind it in the text has written its slot -/
theorem pst_more (t : Nat) (j : Nat) : ∀ (l : List Oper) (ss : List SV) (σ : Sl) (k : Nat) (f : Nat → Bool) (oj : Oper) (sj : SV), l[j]? = some oj → ss[j]? = some sj → f (k + j) = false →
    (∀ i o, l[i]? = some o → j < i → f (k + i) = true → o.dst ≠ oj.dst ∨ oj.dst = none) →
    get (put (pst σ k l ss f) oj.dst sj) t = get (pst σ k l ss (fun i => i == k + j || f i)) t := by
  induction j with
  | zero =>
    intro l ss σ k f oj sj hl hs hf hd
    match l, ss, hl, hs with
    | o :: l, s :: ss, hl, hs =>
      simp at hl hs; subst hl; subst hs
      unfold pst
      rw [Nat.add_zero] at hf
      simp only [hf, Nat.add_zero, BEq.rfl, Bool.true_or]
      by_cases ht : o.dst = some t
      · -- nothing behind writes t
        have hno : ∀ i o', l[i]? = some o' → f (k + 1 + i) = true → o'.dst ≠ some t := by
          intro i o' hi hfi
          rcases hd (i + 1) o' (by simpa using hi) (by omega) (by rw [show k + (i + 1) = k + 1 + i by omega]; exact hfi) with h | h
          · rw [ht] at h; exact h
          · rw [ht] at h; cases h
        have e1 : get (put (pst σ (k + 1) l ss f) o.dst s) t = s := by rw [ht]; simp [put, get_cons]
        have e2 := pst_congr t l ss (put σ o.dst s) (put σ o.dst s) (k + 1) (fun i => i == k || f i) (fun _ => false) rfl (fun i o' hi hne => by
          refine hno i o' hi ?_
          have : (k + 1 + i == k) = false := by simp; omega
          simpa [this] using hne)
        have e3 : ∀ (l : List Oper) (ss : List SV) (τ : Sl) (k : Nat), pst τ k l ss (fun _ => false) = τ := by
          intro l
          induction l with
          | nil => intro ss τ k; simp [pst]
          | cons o l ih => intro ss τ k; cases ss with
            | nil => simp [pst]
            | cons s ss => simp only [pst]; exact ih ss τ (k + 1)
        rw [e1, e2, e3, ht]; simp [put, get_cons]
      · rw [get_put_ne ht]
        refine pst_congr t l ss _ _ (k + 1) _ _ (get_put_ne ht).symm (fun i o' hi hne => ?_)
        have : (k + 1 + i == k) = false := by simp; omega
        simp [this] at hne
  | succ j ih =>
    intro l ss σ k f oj sj hl hs hf hd
    match l, ss, hl, hs with
    | o :: l, s :: ss, hl, hs =>
      simp at hl hs
      unfold pst
      have hk : (k == k + (j + 1)) = false := by simp
      have hkk : k + (j + 1) = k + 1 + j := by omega
      simp only [hk, Bool.false_or]
      rw [hkk]
      exact ih l ss _ (k + 1) f oj sj hl hs (by rw [← hkk]; exact hf) (fun i o' hi hlt hfi => hd (i + 1) o' (by simpa using hi) (by omega) (by rw [show k + (i + 1) = k + 1 + i by omega]; exact hfi))

theorem pst_none (l : List Oper) : ∀ (ss : List SV) (τ : Sl) (k : Nat), pst τ k l ss (fun _ => false) = τ := by
  induction l with
  | nil => intro ss τ k; simp [pst]
  | cons o l ih => intro ss τ k; cases ss with
    | nil => simp [pst]
    | cons s ss => simp only [pst]; exact ih ss τ (k + 1)

/-- the walk of the text's order up to the next operation that turns objects, as a list of what each operation yields -/
theorem alexD_run {C : Ctx} {η : List Ob} {ops : Array Oper} {K : Sl → List Ob → Prop} : ∀ (l : List Oper) (σ : Sl) (k : Nat), alexD C ops l K σ η →
    ∃ ss : List SV, ss.length ≤ l.length ∧ ((ss.length = l.length ∧ ∃ σ', K σ' η ∧ Le σ' (pst σ k l ss (fun i => decide (i < k + ss.length)))) ∨
        ∃ o, l[ss.length]? = some o ∧ barOk ops (l.length - ss.length - 1) = true ∧ Wants ops (pst σ k l ss (fun i => decide (i < k + ss.length))) o.guard true ∧ EStep C o (alexD C ops (l.drop (ss.length + 1)) K) (pst σ k l ss (fun i => decide (i < k + ss.length))) η) ∧
      ∀ j o s, l[j]? = some o → ss[j]? = some s → DstOk C.N o.dst ∧
        ((Wants ops (pst σ k l ss (fun i => decide (i < k + j))) o.guard true ∧ Ylds C.P η (pst σ k l ss (fun i => decide (i < k + j))) o s) ∨ (Wants ops (pst σ k l ss (fun i => decide (i < k + j))) o.guard false ∧ s = .top))
  | [], σ, k, h => by
    obtain ⟨σ', h1, h2⟩ := h
    exact ⟨[], Nat.le_refl _, .inl ⟨rfl, σ', h1, by simpa [pst] using h2⟩, fun j o s hj => by simp at hj⟩
  | o :: l, σ, k, .inr ⟨h1, h2, h3⟩ => by
    refine ⟨[], Nat.zero_le _, .inr ⟨o, rfl, by simpa using h1, by simpa [pst] using h2, by simpa [pst] using h3⟩, fun j o s _ hs => by simp at hs⟩
  | o :: l, σ, k, .inl ⟨s, h1, h2, h3⟩ => by
    obtain ⟨ss, e1, e2, e3⟩ := alexD_run l _ (k + 1) h3
    have hd0 : decide (k < k + (s :: ss).length) = true := by simp
    have ee : pst σ k (o :: l) (s :: ss) (fun i => decide (i < k + (s :: ss).length)) = pst (put σ o.dst s) (k + 1) l ss (fun i => decide (i < k + 1 + ss.length)) := by
      have he : k + (s :: ss).length = k + 1 + ss.length := by simp only [List.length_cons]; omega
      conv => lhs; unfold pst
      rw [he] at hd0
      simp only [he, hd0]
    refine ⟨s :: ss, by simp only [List.length_cons]; omega, ?_, fun j o' s' hj hs => ?_⟩
    · rw [ee]
      rcases e2 with ⟨e2, e4⟩ | ⟨p, e2, e4, e5, e6⟩
      · exact .inl ⟨by simp [e2], e4⟩
      · exact .inr ⟨p, by simpa using e2, by simpa using e4, e5, by simpa using e6⟩
    · cases j with
      | zero =>
        simp at hj hs; subst hj; subst hs
        have e0 : ∀ t, get (pst σ k (o :: l) (s :: ss) (fun i => decide (i < k + 0))) t = get σ t := by
          intro t
          have := pst_congr t (o :: l) (s :: ss) σ σ k (fun i => decide (i < k + 0)) (fun _ => false) rfl (fun i o' hi hne => by simp at hne)
          rw [this, pst_none]
        refine ⟨h2, ?_⟩
        rcases h1 with ⟨h1, h4⟩ | ⟨h1, h4⟩
        · exact .inl ⟨h1.congr e0, h4.congr fun x _ => oval_congr e0 x⟩
        · exact .inr ⟨h1.congr e0, h4⟩
      | succ j =>
        simp at hj hs
        have := e3 j o' s' hj hs
        have hk : k + (j + 1) = k + 1 + j := by omega
        unfold pst
        rw [hk]
        have hd : decide (k < k + 1 + j) = true := by simp; omega
        simp only [hd]
        exact this

/-- where all that had to come up has come up, the reached has -/
theorem reach_listed {ops : Array Oper} {f : Nat → Bool} (hcl : ∀ j o, ops[j]? = some o → f j = true → ∀ e ∈ o.after, Region.binds .any e = true → f e.on = true) {i : Nat} : ∀ (n j : Nat) (o : Oper), ops[j]? = some o → (∀ e ∈ o.after, Region.binds .any e = true → f e.on = true) → reach ops n j i = true → f i = true
  | 0, _, _, _, _, h => by simp [reach] at h
  | n + 1, j, o, ho, hd, h => by
    simp only [reach, ho] at h
    obtain ⟨q, hq, he⟩ := Array.any_eq_true.1 h
    simp only [Bool.and_eq_true, Bool.or_eq_true] at he
    obtain ⟨hb, he⟩ := he
    have h1 := hd _ (Array.getElem_mem hq) hb
    rcases he with he | ⟨_, he⟩
    · rw [Nat.eq_of_beq_eq_true he] at h1; exact h1
    · cases hp : ops[(o.after[q]).on]? with
      | none => cases n with
        | zero => simp [reach] at he
        | succ n => simp [reach, hp] at he
      | some p => exact reach_listed hcl n _ p hp (fun e hm hb' => hcl _ p hp h1 e hm hb') he

theorem looks_operand {ops : Array Oper} {o : Oper} {t : Nat} (h : Operand.tmp t ∈ o.op.operands) : t ∈ o.looksAt ops := by
  unfold Oper.looksAt
  refine List.mem_append_left _ (List.mem_filterMap.2 ⟨.tmp t, by simpa using h, rfl⟩)

theorem looks_guard {ops : Array Oper} {o : Oper} {j t : Nat} {q : Bool} (h : o.guard = some (j, q)) (ht : (ops[j]?).bind (·.dst) = some t) : t ∈ o.looksAt ops := by
  unfold Oper.looksAt
  refine List.mem_append_right _ ?_
  rw [h]; simp [ht]

theorem setB (listed : Array Bool) (j i : Nat) (hj : j < listed.size) : (listed.setIfInBounds j true).getD i true = (i == j || listed.getD i true) := by
  simp only [Array.getD_eq_getD_getElem?, Array.getElem?_setIfInBounds]
  by_cases h : j = i
  · subst h; simp [hj]
  · have : (i == j) = false := by simp; omega
    simp [h, this]

theorem draw_spec {l : List Oper} (hB : drawOk l = true) : ∀ j oj, l[j]? = some oj → (∀ cs b, oj.op ≠ .select cs b) ∧ (∀ e ∈ oj.after, Region.binds .any e = true → e.on < j) ∧
      ∀ k ok, k < j → l[k]? = some ok → (∃ e ∈ oj.after, Region.binds .any e = true ∧ e.on = k) ∨ ok.apart l.toArray oj = true := by
  intro j oj hj
  have hjl : j < l.length := (List.getElem?_eq_some_iff.1 hj).1
  have := List.all_eq_true.1 hB j (List.mem_range.2 hjl)
  simp only [hj, Bool.and_eq_true] at this
  obtain ⟨⟨h1, h2⟩, h3⟩ := this
  refine ⟨fun cs b hs => (by rw [hs] at h1; cases h1), fun e he hb => ?_, fun k ok hk hok => ?_⟩
  · have := Array.all_eq_true_iff_forall_mem.1 h2 e he
    simpa [hb] using this
  · have := List.all_eq_true.1 h3 k (List.mem_range.2 hk)
    simp only [hok, Bool.or_eq_true] at this
    rcases this with h | h
    · left
      obtain ⟨i, hi, he⟩ := Array.any_eq_true.1 h
      simp only [Bool.and_eq_true, beq_iff_eq] at he
      exact ⟨_, Array.getElem_mem hi, he.1, he.2⟩
    · exact .inr h

theorem draw_full {l : List Oper} (hB : drawOk l = true) (listed : Array Bool) (hsz : listed.size = l.length) (hr : Region.ready .any l.toArray listed = []) : ∀ j, j < l.length → listed.getD j true = true := by
  intro j
  induction j using Nat.strongRecOn with
  | _ j ih =>
    intro hj
    cases hc : listed.getD j true with
    | true => rfl
    | false =>
      exfalso
      have hlj : l[j]? = some l[j] := List.getElem?_eq_getElem hj
      have hm : j ∈ Region.ready .any l.toArray listed := by
        refine mem_ready.2 ⟨hc, l[j], by simp, fun e he hb => ?_⟩
        have hlt := (draw_spec hB j _ hlj).2.1 e he hb
        have := ih e.on hlt (by omega)
        simp only [Array.getD_eq_getD_getElem?] at this ⊢
        rw [Array.getElem?_eq_getElem (by omega)] at this ⊢
        simpa using this
      rw [hr] at hm; cases hm

theorem getD_both {listed : Array Bool} {i : Nat} (h : i < listed.size) : listed.getD i true = listed.getD i false := by
  simp only [Array.getD_eq_getD_getElem?, Array.getElem?_eq_getElem h, Option.getD_some]

theorem wp_draw {C : Ctx} {l : List Oper} {Q : Exit → Act → World → Prop} {K : Sl → List Ob → Prop} (hQ : ∀ σ' η' a w, K σ' η' → Abs C σ' η' a w → Q .normal a w) (hB : drawOk l = true) :
    ∀ (n s : Nat) (σ : Sl) (η : List Ob), s + n = l.length → alexD C l.toArray (l.drop s) K σ η → ∀ (fuel : Nat) (listed : Array Bool) (a : Act) (w : World), listed.size = l.length → (listed.toList.filter (! ·)).length ≤ fuel →
      (∀ j o, l[j]? = some o → listed.getD j true = true → ∀ e ∈ o.after, Region.binds .any e = true → listed.getD e.on true = true) →
      (∀ i, i < s → listed.getD i true = true) → (∀ i, s ≤ i → i < l.length → listed.getD i true = false) →
      Abs C σ η a w → wpAny C.P .any l.toArray Q fuel listed a w := by
  have spec := draw_spec hB
  intro n
  induction n using Nat.strongRecOn with
  | _ n ihn =>
  intro s σ η hsn hal
  obtain ⟨ss, hlen, hend, hop⟩ := alexD_run (l.drop s) σ s hal
  have hdl : (l.drop s).length = n := by rw [List.length_drop]; omega
  rw [hdl] at hlen hend
  have inner : ∀ (fuel : Nat) (listed : Array Bool) (a : Act) (w : World), listed.size = l.length → (listed.toList.filter (! ·)).length ≤ fuel →
      (∀ j o, l[j]? = some o → listed.getD j true = true → ∀ e ∈ o.after, Region.binds .any e = true → listed.getD e.on true = true) →
      (∀ i, i < s → listed.getD i true = true) → (∀ i, s + ss.length ≤ i → i < l.length → listed.getD i true = false) →
      Abs C (pst σ s (l.drop s) ss (fun i => listed.getD i true)) η a w → wpAny C.P .any l.toArray Q fuel listed a w := by
    have fin : ∀ (listed : Array Bool) (a : Act) (w : World), listed.size = l.length → Region.ready .any l.toArray listed = [] → (∀ i, s + ss.length ≤ i → i < l.length → listed.getD i true = false) →
        Abs C (pst σ s (l.drop s) ss (fun i => listed.getD i true)) η a w → Q .normal a w := by
      intro listed a w hsz hr hno hab
      have full := draw_full hB listed hsz hr
      rcases hend with ⟨e1, σ', hk, hle⟩ | ⟨o, ho, _⟩
      · refine hQ σ' η a w hk (hab.le fun t => ?_)
        rw [pst_congr t (l.drop s) ss σ σ s (fun i => listed.getD i true) (fun i => decide (i < s + ss.length)) rfl (fun i o hi hne => ?_)]
        · exact hle t
        · have hil := (List.getElem?_eq_some_iff.1 hi).1
          rw [hdl] at hil
          have h1 := full (s + i) (by omega)
          have h2 : decide (s + i < s + ss.length) = true := by simp; omega
          simp only [h1, h2] at hne
          exact absurd rfl hne
      · exfalso
        have hil := (List.getElem?_eq_some_iff.1 ho).1
        rw [hdl] at hil
        have h1 := full (s + ss.length) (by omega)
        rw [hno (s + ss.length) (Nat.le_refl _) (by omega)] at h1; cases h1
    intro fuel
    induction fuel with
    | zero =>
      intro listed a w hsz hc _ _ hno hab
      have hnil : Region.ready .any l.toArray listed = [] := by
        cases hr : Region.ready .any l.toArray listed with
        | nil => rfl
        | cons x xs =>
          exfalso
          have hx : x ∈ Region.ready .any l.toArray listed := by rw [hr]; simp
          have h0 := (mem_ready.1 hx).1
          have hxl : x < listed.size := by
            rcases Nat.lt_or_ge x listed.size with h | h
            · exact h
            · rw [Array.getD_eq_getD_getElem?, Array.getElem?_eq_none h] at h0; cases h0
          have : false ∈ listed.toList.filter (! ·) := by
            rw [List.mem_filter]
            refine ⟨?_, rfl⟩
            rw [Array.getD_eq_getD_getElem?, Array.getElem?_eq_getElem hxl] at h0
            simp at h0
            rw [← h0]; exact Array.mem_toList_iff.2 (Array.getElem_mem hxl)
          have := List.length_pos_of_mem this
          omega
      exact ⟨hnil, fin listed a w hsz hnil hno hab⟩
    | succ fuel ih =>
      intro listed a w hsz hc hpre hlow hno hab
      refine ⟨fun hr => fin listed a w hsz hr hno hab, fun j hj => ?_⟩
      obtain ⟨hun, oj, hoj, hall⟩ := mem_ready.1 hj
      have hlj : l[j]? = some oj := by simpa using hoj
      have hjl : j < l.length := (List.getElem?_eq_some_iff.1 hlj).1
      have hsj : s ≤ j := by
        rcases Nat.lt_or_ge j s with h | h
        · rw [hlow j h] at hun; cases hun
        · exact h
      have hdj : (l.drop s)[j - s]? = some oj := by rw [List.getElem?_drop, show s + (j - s) = j by omega]; exact hlj
      have hcl : ∀ j o, l.toArray[j]? = some o → listed.getD j true = true → ∀ e ∈ o.after, Region.binds .any e = true → listed.getD e.on true = true := fun j o ho => hpre j o (by simpa using ho)
      have hall' : ∀ e ∈ oj.after, Region.binds .any e = true → listed.getD e.on true = true := by
        intro e he hb
        have hlt := (spec j oj hlj).2.1 e he hb
        rw [getD_both (by omega)]; exact hall e he hb
      have cnt : ((listed.setIfInBounds j true).toList.filter (! ·)).length ≤ fuel := by
        have hjs : j < listed.size := by omega
        have h0 : listed[j] = false := by
          rw [Array.getD_eq_getD_getElem?, Array.getElem?_eq_getElem hjs] at hun; simpa using hun
        have e1 : listed.toList = listed.toList.take j ++ false :: listed.toList.drop (j + 1) := by
          conv => lhs; rw [← List.take_append_drop j listed.toList]
          congr 1
          rw [List.drop_eq_getElem_cons (by simpa using hjs)]
          congr 1
        have e2 : (listed.setIfInBounds j true).toList = listed.toList.take j ++ true :: listed.toList.drop (j + 1) := by
          rw [Array.toList_setIfInBounds, List.set_eq_take_append_cons_drop, if_pos (by simpa using hjs)]
        rw [e1] at hc
        rw [e2]
        simp only [List.filter_append, List.length_append, List.filter_cons, Bool.not_false, if_true, List.length_cons, Bool.not_true, Bool.false_eq_true, if_false] at hc ⊢
        omega
      have pre' : ∀ i o, l[i]? = some o → (listed.setIfInBounds j true).getD i true = true → ∀ e ∈ o.after, Region.binds .any e = true → (listed.setIfInBounds j true).getD e.on true = true := by
        intro i o hi hli e he hb
        rw [setB listed j _ (by omega)] at hli ⊢
        by_cases hij : i = j
        · subst hij
          rw [hlj] at hi; injection hi with hi; subst hi
          rw [hall' e he hb]; simp
        · have hbe : (i == j) = false := by simpa using hij
          rw [hbe, Bool.false_or] at hli
          rw [hpre i o hi hli e he hb]; simp
      rcases Nat.lt_trichotomy j (s + ss.length) with hjm | hjm | hjm
      · -- an operation that leaves the objects alone
        obtain ⟨sj, hss⟩ : ∃ x, ss[j - s]? = some x := ⟨_, List.getElem?_eq_getElem (by omega)⟩
        obtain ⟨hd, hw⟩ := hop (j - s) oj sj hdj hss
        have hsum : s + (j - s) = j := by omega
        rw [hsum] at hw
        have same : ∀ t, t ∈ oj.looksAt l.toArray → get (pst σ s (l.drop s) ss (fun i => listed.getD i true)) t = get (pst σ s (l.drop s) ss (fun i => decide (i < j))) t := by
          intro t ht
          refine pst_congr t (l.drop s) ss σ σ s _ _ rfl (fun i o hi hne => ?_)
          rw [List.getElem?_drop] at hi
          have hil : s + i < l.length := (List.getElem?_eq_some_iff.1 hi).1
          rcases Nat.lt_trichotomy (s + i) j with h | h | h
          · have hni : listed.getD (s + i) true = false := by
              cases hc' : listed.getD (s + i) true with
              | false => rfl
              | true => exfalso; simp [hc', h] at hne
            rcases (spec j oj hlj).2.2 (s + i) o h hi with ⟨e, he, hb, hon⟩ | hap
            · have := hall' e he hb
              rw [hon, hni] at this; cases this
            · intro hdt; exact (Oper.apart_spec hap).1 t hdt ht
          · exfalso; rw [h] at hne; simp [hun] at hne
          · have hli : listed.getD (s + i) true = true := by
              cases hc' : listed.getD (s + i) true with
              | true => rfl
              | false =>
                exfalso
                have hdd : decide (s + i < j) = false := by simp; omega
                simp only [hc', hdd] at hne
                exact hne rfl
            rcases (spec (s + i) o hi).2.2 j oj h hlj with ⟨e, he, hb, hon⟩ | hap
            · have := hpre (s + i) o hi hli e he hb
              rw [hon, hun] at this; cases this
            · intro hdt; exact (Oper.apart_spec hap).2.2 t hdt ht
        have more : ∀ t, get (put (pst σ s (l.drop s) ss (fun i => listed.getD i true)) oj.dst sj) t = get (pst σ s (l.drop s) ss (fun i => (listed.setIfInBounds j true).getD i true)) t := by
          intro t
          have h1 := pst_more t (j - s) (l.drop s) ss σ s (fun i => listed.getD i true) oj sj hdj hss (by rw [hsum]; exact hun) (fun i o hi hlt' hfi => by
            rw [List.getElem?_drop] at hi
            rcases (spec (s + i) o hi).2.2 j oj (by omega) hlj with ⟨e, he, hb, hon⟩ | hap
            · have := hpre (s + i) o hi hfi e he hb
              rw [hon, hun] at this; cases this
            · cases hdd : oj.dst with
              | none => exact .inr rfl
              | some d => exact .inl ((Oper.apart_spec hap).2.1 d hdd))
          rw [h1]
          congr 1
          congr 1
          funext i
          rw [setB listed j i (by omega), hsum]
        have next : ∀ a' w', Abs C (put (pst σ s (l.drop s) ss (fun i => listed.getD i true)) oj.dst sj) η a' w' → wpAny C.P .any l.toArray Q fuel (listed.setIfInBounds j true) a' w' :=
          fun a' w' hab' => ih _ a' w' (by simpa using hsz) cnt pre' (fun i hi => by rw [setB listed j i (by omega), hlow i hi]; simp) (fun i h1 h2 => by
            rw [setB listed j i (by omega), hno i h1 h2]
            have : (i == j) = false := by simp; omega
            rw [this]; rfl) (hab'.le fun t => .inl (more t).symm)
        obtain ⟨g, hg⟩ := hab
        unfold wpOp
        simp only [hoj]
        have gw : ∀ {b : Bool}, Wants l.toArray (pst σ s (l.drop s) ss (fun i => decide (i < j))) oj.guard b → Region.wanted oj (yielded l.toArray a.tmps) = b := fun hwb =>
          hwb.wanted (g := g) (w := w) fun t k q hgd ht => by rw [← same t (looks_guard hgd ht)]; exact hg.rep t
        rcases hw with ⟨hw, hy⟩ | ⟨hw, rfl⟩
        · rw [if_pos (gw hw)]
          refine .inl ?_
          have hy' : Ylds C.P η (pst σ s (l.drop s) ss (fun i => listed.getD i true)) oj sj := hy.congr fun x hx => by
            cases x with
            | tmp t => exact same t (looks_operand hx)
            | _ => rfl
          exact hy'.wp hd next hg
        · rw [if_neg (by rw [gw hw]; simp)]
          exact next _ _ ⟨g, hg.put hd trivial⟩
      · -- the one that turns objects: all ahead of it have come up
        rcases hend with ⟨e1, _⟩ | ⟨o, ho, hbar, hw, hes⟩
        · omega
        have hoo : o = oj := by
          rw [show ss.length = j - s by omega, hdj] at ho; exact (Option.some.inj ho).symm
        subst hoo
        simp only [barOk, Bool.and_eq_true] at hbar
        obtain ⟨⟨_, hb1⟩, _⟩ := hbar
        have hk : l.toArray.size - 1 - (n - ss.length - 1) = j := by rw [List.size_toArray]; omega
        rw [hk] at hb1
        have hdone : ∀ i, i < j → listed.getD i true = true := fun i hi =>
          reach_listed (f := fun i => listed.getD i true) hcl l.toArray.size j o (by simpa using hlj) hall' (List.all_eq_true.1 hb1 i (List.mem_range.2 hi))
        have eqs : ∀ t, get (pst σ s (l.drop s) ss (fun i => listed.getD i true)) t = get (pst σ s (l.drop s) ss (fun i => decide (i < s + ss.length))) t := by
          intro t
          refine pst_congr t (l.drop s) ss σ σ s _ _ rfl (fun i o' hi hne => ?_)
          have hil := (List.getElem?_eq_some_iff.1 hi).1
          rw [hdl] at hil
          exfalso
          rcases Nat.lt_or_ge (s + i) j with h | h
          · have h2 : decide (s + i < s + ss.length) = true := by simp; omega
            rw [hdone _ h, h2] at hne; exact hne rfl
          · have h2 : decide (s + i < s + ss.length) = false := by simp; omega
            rw [hno (s + i) (by omega) (by omega), h2] at hne; exact hne rfl
        have hab' := hab.le (σ' := pst σ s (l.drop s) ss (fun i => decide (i < s + ss.length))) fun t => .inl (eqs t).symm
        obtain ⟨g, hg⟩ := hab'
        unfold wpOp
        simp only [hoj]
        rw [if_pos (hw.wanted (g := g) (w := w) fun t k q hgd ht => hg.rep t)]
        refine .inl (Oper.wp_mono (fun a' w' hk => ?_) (hes Q a w ⟨g, hg⟩))
        obtain ⟨σ', η', hal', hab'⟩ := hk
        refine ihn (n - ss.length - 1) (by omega) (j + 1) σ' η' (by omega) ?_ fuel _ a' w' (by simpa using hsz) cnt pre' (fun i hi => ?_) (fun i h1 h2 => ?_) hab'
        · rw [List.drop_drop, show s + (ss.length + 1) = j + 1 by omega] at hal'; exact hal'
        · rw [setB listed j i (by omega)]
          rcases Nat.lt_or_ge i j with h | h
          · rw [hdone i h]; simp
          · have : (i == j) = true := by simp; omega
            rw [this]; rfl
        · rw [setB listed j i (by omega), hno i (by omega) h2]
          have : (i == j) = false := by simp; omega
          rw [this]; rfl
      · -- those behind it cannot come up yet
        exfalso
        rcases hend with ⟨e1, _⟩ | ⟨o, ho, hbar, hw, hes⟩
        · omega
        simp only [barOk, Bool.and_eq_true] at hbar
        obtain ⟨_, hb2⟩ := hbar
        have hk1 : l.toArray.size - 1 - (n - ss.length - 1) = s + ss.length := by rw [List.size_toArray]; omega
        have hk2 : l.toArray.size - (n - ss.length - 1) + (j - (s + ss.length) - 1) = j := by rw [List.size_toArray]; omega
        have := List.all_eq_true.1 hb2 (j - (s + ss.length) - 1) (List.mem_range.2 (by omega))
        rw [hk1, hk2] at this
        have := reach_listed (f := fun i => listed.getD i true) hcl l.toArray.size j oj (by simpa using hlj) hall' this
        rw [hno (s + ss.length) (Nat.le_refl _) (by omega)] at this; cases this
  intro fuel listed a w hsz hc hpre hlow hhigh hab
  refine inner fuel listed a w hsz hc hpre hlow (fun i h1 h2 => hhigh i (by omega) h2) ?_
  refine hab.le fun t => .inl ?_
  rw [pst_congr t (l.drop s) ss σ σ s _ (fun _ => false) rfl (fun i o hi hne => ?_), pst_none]
  exfalso
  have hil := (List.getElem?_eq_some_iff.1 hi).1
  rw [hdl] at hil
  rw [hhigh (s + i) (by omega) (by omega)] at hne; exact hne rfl

theorem awp_draw {C : Ctx} {Q : Exit → Sl → List Ob → Prop} {σ : Sl} {η : List Ob} {id : Nat} {l : List Oper} (hm : C.P.follows .mixedOrders = true) (hB : drawOk l = true) (h : alex C true l.toArray l (Q .normal) σ η) : awp C (.region id l.toArray true) Q σ η := by
  intro R hR a w ⟨g, hg⟩
  have hd : Abs C σ η a { w with drawn := w.drawn + 1 } := ⟨g, hg.grow ⟨rfl, rfl, rfl, rfl, rfl, rfl, rfl, Nat.le_refl _, fun _ _ => rfl, fun _ _ h => h, fun _ _ h => .inl h, hg.inv.st⟩⟩
  refine wp_region_any hm (wp_draw (K := Q .normal) (fun σ' η' a w hk hab => hR _ _ _ _ _ hk hab) hB l.length 0 σ η (by simp) h _ _ a _ (by simp) ?_ ?_ (fun i hi => by omega) (fun i _ hi => ?_) hd)
  · refine Nat.le_trans (List.length_filter_le _ _) (by simp)
  · intro j o hj hl
    have hjl : j < l.length := (List.getElem?_eq_some_iff.1 hj).1
    rw [Array.getD_eq_getD_getElem?, Array.getElem?_eq_getElem (by simpa using hjl)] at hl
    simp at hl
  · rw [Array.getD_eq_getD_getElem?, Array.getElem?_eq_getElem (by simpa using hi)]
    simp

end Go.Sx
/- The engine: boxes of the call's own (variables whose address is taken, structs), and what is read of them. -/
namespace Go.Sx
open Go.RowKit

def upd {α : Type} (f : Nat → α) (i : Nat) (x : α) : Nat → α := fun j => if j = i then x else f j

theorem RepS.ext {g g' : Gh} {w w' : World} {v : Value} {s : SV} (k : Keep g.St w g'.St w') (h : ∀ id, id < g.n → g'.blk id = g.blk id ∧ g'.cap id = g.cap id ∧ g'.sz id = g.sz id) (hn : g.n ≤ g'.n) (r : RepS g w v s) : RepS g' w' v s := by
  induction s generalizing v with
  | d d => exact RepD.keep k r
  | nil => exact r
  | ptr id off => obtain ⟨h1, b, h2, h3⟩ := r; exact ⟨by omega, b, by rw [(h id h1).1]; exact h2, h3⟩
  | rptr cs =>
    obtain ⟨ad, us, h1, h2, h3, h4, h5⟩ := r
    exact ⟨ad, us, h1, h2, h3, fun j u hu => (h4 j u hu).keep k, fun j u d hu hd => (h5 j u d hu hd).keep k⟩
  | bptr id i off => obtain ⟨h1, b, h2, h3⟩ := r; exact ⟨by omega, b, by rw [(h id h1).1]; exact h2, by rw [(h id h1).2.2]; exact h3⟩
  | buf id n => obtain ⟨h1, h2⟩ := r; exact ⟨by omega, by rw [(h id h1).1, (h id h1).2.1]; exact h2⟩
  | clo f ids =>
    obtain ⟨vs, h1, h2, h3⟩ := r
    refine ⟨vs, h1, h2, fun j id u hj hu => ?_⟩
    obtain ⟨h4, b, h5, h6⟩ := h3 j id u hj hu
    exact ⟨by omega, b, by rw [(h id h4).1]; exact h5, h6⟩
  | mp id => obtain ⟨h1, b, h2, h3⟩ := r; exact ⟨by omega, b, by rw [(h id h1).1]; exact h2, h3⟩
  | pair a b ha hb' => obtain ⟨u1, u2, h1, h2, h3⟩ := r; exact ⟨u1, u2, h1, ha h2, hb' h3⟩
  | p φ => exact r
  | top => trivial

theorem ObOk.ext {g g' : Gh} {w w' : World} {id : Nat} {o : Ob} (k : Keep g.St w g'.St w') (h : ∀ id, id < g.n → g'.blk id = g.blk id ∧ g'.cap id = g.cap id ∧ g'.sz id = g.sz id) (hn : g.n ≤ g'.n) (hid : id < g.n)
    (hb : ∀ b, g.blk id = some b → w'.heap[b]? = w.heap[b]? ∧ ∀ o, g'.St b o ↔ g.St b o) (r : ObOk g w id o) : ObOk g' w' id o := by
  cases o with
  | bx kb et cs =>
    obtain ⟨b, e, us, h1, h2, h3, h4, h5, h6, h7⟩ := r
    exact ⟨b, e, us, by rw [(h id hid).1]; exact h1, (hb b h1).1.trans h2, h3, h4, fun j u s hu hs => (h5 j u s hu hs).ext k h hn, fun o ho => h6 o (((hb b h1).2 o).1 ho), h7⟩
  | buf mu e sz xs =>
    obtain ⟨h1, h2, h3, h4, h5⟩ := r
    refine ⟨by rw [(h id hid).2.2]; exact h1, h2, by rw [(h id hid).2.1]; exact h3, by rw [(h id hid).2.1]; exact h4, ?_⟩
    rcases h5 with h5 | ⟨b, us, h5, h6, h7, h8, h9, h10⟩
    · exact .inl (by rw [(h id hid).1, (h id hid).2.1]; exact h5)
    · exact .inr ⟨b, us, by rw [(h id hid).1]; exact h5, (hb b h5).1.trans h6, by rw [(h id hid).2.1]; exact h7, h8, fun j u d hu hd => (h9 j u d hu hd).keep k, fun o => ((hb b h5).2 o).trans (h10 o)⟩
  | iter s pos =>
    obtain ⟨b, h1, h2, h3⟩ := r
    exact ⟨b, by rw [(h id hid).1]; exact h1, (hb b h1).1.trans h2, fun o ho => h3 o (((hb b h1).2 o).1 ho)⟩
  | map kb l =>
    obtain ⟨b, es, h1, h2, h3, h4, h5, h6⟩ := r
    exact ⟨b, es, by rw [(h id hid).1]; exact h1, (hb b h1).1.trans h2, h3, fun j e p he hp => ⟨(h4 j e p he hp).1, (h4 j e p he hp).2.1, (h4 j e p he hp).2.2.keep k⟩, fun o ho => h5 o (((hb b h1).2 o).1 ho), h6⟩
  | miter m since seen st =>
    obtain ⟨b, bm, h1, h2, h3, h4, h5⟩ := r
    exact ⟨b, bm, by rw [(h id hid).1]; exact h1, by omega, by rw [(h m h2).1]; exact h3, (hb b h1).1.trans h4, fun o ho => h5 o (((hb b h1).2 o).1 ho)⟩
  | gone => trivial

/-- AN OBJECT MORE. -/
theorem AbsG.newOb {C : Ctx} {g g' : Gh} {σ : Sl} {η : List Ob} {a : Act} {w w' : World} (h : AbsG C g σ η a w) (o : Ob)
    (os : w'.os = w.os) (tape : w'.tape = w.tape) (output : w'.output = w.output) (size : w.heap.size ≤ w'.heap.size)
    (heap : ∀ k, k < w.heap.size → w'.heap[k]? = w.heap[k]?)
    (hn : g'.n = g.n + 1) (hold : ∀ id, id < g.n → g'.blk id = g.blk id ∧ g'.cap id = g.cap id ∧ g'.sz id = g.sz id) (hdead : ∀ id, g.n + 1 ≤ id → g'.blk id = none)
    (hnew : ∀ b, g'.blk g.n = some b → w.heap.size ≤ b ∧ b < w'.heap.size)
    (sub : ∀ b o, g.St b o → g'.St b o) (new : ∀ b o, g'.St b o → g.St b o ∨ w.heap.size ≤ b) (lt : ∀ b o, g'.St b o → b < w'.heap.size)
    (_hro : C.ro ≤ g.n) (ok : ObOk g' w' g.n o) : AbsG C g' σ (η ++ [o]) a w' := by
  have kp : Keep g.St w g'.St w' := ⟨sub, fun b o u hb hu => (World.cell?_of_block (a := ⟨b, o, none⟩) (heap b (h.inv.st b o hb))).trans hu, fun b hb => heap b (h.inv.st b 0 (hb 0))⟩
  have stb : ∀ id b, g.blk id = some b → ∀ o, g'.St b o ↔ g.St b o := fun id b hb o => ⟨fun ho => by
    rcases new b o ho with h1 | h1
    · exact h1
    · exact absurd (h.inv.lt id b hb) (by omega), sub b o⟩
  have hlt : ∀ id b, g'.blk id = some b → (id < g.n ∧ g.blk id = some b) ∨ (id = g.n ∧ w.heap.size ≤ b ∧ b < w'.heap.size) := by
    intro id b hb
    rcases Nat.lt_trichotomy id g.n with hc | hc | hc
    · rw [(hold id hc).1] at hb; exact .inl ⟨hc, hb⟩
    · subst hc; exact .inr ⟨rfl, hnew b hb⟩
    · rw [hdead id hc] at hb; cases hb
  refine ⟨h.defers, h.size, ⟨by rw [hn, h.inv.n]; simp, fun id b hb => ?_, fun id hid => hdead id (by omega), fun i j b hi hj => ?_, fun id o' ho => ?_, lt, h.inv.gl.keep kp⟩, os.trans h.os, tape.trans h.tape, output.trans h.output, Nat.le_trans h.wsize size,
    fun k hk hx => (heap k (Nat.lt_of_lt_of_le hk h.wsize)).trans (h.heap k hk hx), h.keep.trans kp, fun b o hb => ?_, fun id b hb hr => ?_, fun t => (h.rep t).ext kp hold (by omega)⟩
  · rcases hlt id b hb with ⟨_, h1⟩ | ⟨_, _, h1⟩
    · exact Nat.lt_of_lt_of_le (h.inv.lt id b h1) size
    · exact h1
  · rcases hlt i b hi with ⟨h1, h2⟩ | ⟨h1, h2, _⟩ <;> rcases hlt j b hj with ⟨h3, h4⟩ | ⟨h3, h4, _⟩
    · exact h.inv.inj i j b h2 h4
    · exact absurd (h.inv.lt i b h2) (by omega)
    · exact absurd (h.inv.lt j b h4) (by omega)
    · omega
  · have hl := h.inv.n
    rw [List.getElem?_append] at ho
    split at ho
    · rename_i hc
      exact (h.inv.ob id o' ho).ext kp hold (by omega) (by omega) (fun b hb => ⟨heap b (h.inv.lt id b hb), stb id b hb⟩)
    · rename_i hc
      have hid : id = g.n := by
        have := (List.getElem?_eq_some_iff.1 ho).1
        simp at this; omega
      subst hid
      have : g.n - η.length = 0 := by omega
      rw [this] at ho
      simp at ho; subst ho; exact ok
  · rcases new b o hb with h1 | h1
    · exact h.new b o h1
    · exact .inr (.inl (Nat.le_trans h.wsize h1))
  · rcases hlt id b hb with ⟨_, h1⟩ | ⟨_, h1, _⟩
    · exact h.own id b h1 hr
    · exact .inl (Nat.le_trans h.wsize h1)

/-- A BOX IS WRITTEN. -/
theorem AbsG.setBox {C : Ctx} {g : Gh} {σ : Sl} {η : List Ob} {a : Act} {w : World} (h : AbsG C g σ η a w) {id b : Nat} {e : TypeId} {us us' : Array Value} {kb : Option Nat} {et : Option TypeId} {cs cs' : List SV} (hid : η[id]? = some (.bx kb et cs)) (hkb : (∀ c, kb = some c → c = b) ∧ ∀ t, et = some t → t = e) (hb : g.blk id = some b) (hro : C.ro ≤ id)
    (hh : w.heap[b]? = some (.cells us e (0, 0))) (hst : ∀ o, ¬ g.St b o) (hl : us'.size = cs'.length) (h1 : ∀ u ∈ us', u.oneCell' = true) (hr : ∀ (j : Nat) (u : Value) (s : SV), us'[j]? = some u → cs'[j]? = some s → RepS g w u s) :
    AbsG C g σ (η.set id (.bx kb et cs')) a (w.setRow b us') := by
  have hoth : ∀ k, k ≠ b → (w.setRow b us').heap[k]? = w.heap[k]? := fun k hk => setRow_other w b k us' hk
  have kp : Keep g.St w g.St (w.setRow b us') := ⟨fun _ _ h => h, fun c o u hc hu => (World.cell?_of_block (a := ⟨c, o, none⟩) (hoth c (fun e => hst o (e ▸ hc)))).trans hu, fun c hc => hoth c (fun e => hst 0 (e ▸ hc 0))⟩
  have rk : ∀ {v : Value} {s : SV}, RepS g w v s → RepS g (w.setRow b us') v s := fun r => r.ext kp (fun _ _ => ⟨rfl, rfl, rfl⟩) (Nat.le_refl _)
  have hidl : id < η.length := (List.getElem?_eq_some_iff.1 hid).1
  refine ⟨h.defers, h.size, ⟨by rw [List.length_set]; exact h.inv.n, fun i c hc => by rw [setRow_size]; exact h.inv.lt i c hc, h.inv.dead, h.inv.inj, fun i o ho => ?_, fun c o hc => by rw [setRow_size]; exact h.inv.st c o hc, h.inv.gl.keep kp⟩, h.os, h.tape, h.output, by rw [setRow_size]; exact h.wsize,
    fun k hk hx => ?_, h.keep.trans kp, h.new, h.own, fun t => rk (h.rep t)⟩
  · rw [List.getElem?_set] at ho
    split at ho
    · rename_i hc; subst hc
      try rw [if_pos hidl] at ho
      injection ho with ho; subst ho
      exact ⟨b, e, us', hb, setRow_heap w b us us' e (0, 0) hh, hl, h1, fun j u s hu hs => rk (hr j u s hu hs), hst, hkb⟩
    · rename_i hc
      refine (h.inv.ob i o ho).ext kp (fun _ _ => ⟨rfl, rfl, rfl⟩) (Nat.le_refl _) (by rw [h.inv.n]; exact (List.getElem?_eq_some_iff.1 ho).1) (fun c hcb => ⟨hoth c (fun e => ?_), fun _ => Iff.rfl⟩)
      subst e
      exact hc (h.inv.inj id i c hb hcb)
  · rw [hoth k (fun e => ?_)]
    · exact h.heap k hk hx
    · subst e
      rcases h.own id k hb hro with h2 | h2
      · omega
      · exact hx h2

/-- Is it one cell? -/
def one : SV → Bool
  | .d (.val u) => u.oneCell'
  | .d (.slice _) => true
  | .nil | .ptr _ _ | .rptr _ | .bptr _ _ _ | .buf _ _ | .clo _ _ | .mp _ => true
  | _ => false

theorem RepS.one {g : Gh} {w : World} {v : Value} {s : SV} (r : RepS g w v s) (h : one s = true) : v.cells = #[v] ∧ v.oneCell' = true := by
  have key : v.oneCell' = true → v.cells = #[v] := by cases v <;> simp [Value.oneCell', Value.cells]
  have : v.oneCell' = true := by
    cases s with
    | d d =>
      cases d with
      | val u => have := RepD.val_eq r; subst this; exact h
      | slice xs => change RepD _ _ _ _ at r; cases r; rfl
      | agg cs => cases h
      | tup ds => cases h
    | nil => change _ = _ at r; subst r; rfl
    | ptr id off => obtain ⟨_, b, _, rfl⟩ := r; rfl
    | rptr cs => obtain ⟨ad, us, rfl, _⟩ := r; rfl
    | bptr id i off => obtain ⟨_, b, _, rfl⟩ := r; rfl
    | buf id n => obtain ⟨_, rfl⟩ := r; rfl
    | clo f ids => obtain ⟨vs, rfl, _⟩ := r; rfl
    | mp id => obtain ⟨_, b, _, rfl⟩ := r; rfl
    | pair a b => cases h
    | p φ => cases h
    | top => cases h
  exact ⟨key this, this⟩

/-- the cells of what a slot holds -/
def scells : SV → Option (List SV)
  | .d (.agg ds) => some (ds.map .d)
  | s => match one s with
    | true => some [s]
    | false => none

theorem RepS.cells {g : Gh} {w : World} {v : Value} {s : SV} {cs : List SV} (r : RepS g w v s) (h : scells s = some cs) : v.cells.size = cs.length ∧ (∀ u ∈ v.cells, u.oneCell' = true) ∧ ∀ (j : Nat) (u : Value) (s' : SV), v.cells[j]? = some u → cs[j]? = some s' → RepS g w u s' := by
  unfold scells at h
  split at h
  · rename_i ds
    injection h with h; subst h
    change RepD _ _ _ _ at r
    cases r with
    | agg vs _ hl h1 hr =>
      refine ⟨by simp [Value.cells, hl], by simpa [Value.cells] using h1, fun j u s' hu hs => ?_⟩
      simp [Value.cells] at hu
      rw [List.getElem?_map] at hs
      cases hd : ds[j]? with
      | none => simp [hd] at hs
      | some d => simp [hd] at hs; subst hs; exact hr j u d hu hd
  · split at h
    · rename_i h1
      injection h with h; subst h
      obtain ⟨e, h2⟩ := r.one h1
      rw [e]
      refine ⟨rfl, by simpa using h2, fun j u s' hu hs => ?_⟩
      match j with
      | 0 => simp at hu hs; subst hu; subst hs; exact r
      | j + 1 => simp at hu
    · cases h

section
variable {C : Ctx} {ops : Array Oper} {rest : List Oper} {K : Sl → List Ob → Prop} {σ : Sl} {η : List Ob} {d : Nat} {ty : TypeId} {pos : String} {after : Array Edge} {gd : Option (Nat × Bool)} {t : TypeId} {x y : Operand}

/-- a world that an operation leaves, in a region whose order is laid down -/
theorem estep {o : Oper} {σ' : Sl} {η' : List Ob} (h : ∀ g a w, AbsG C g σ η a w → ∃ v w', (execOp a.eval o).run C.P w = .ok (.value v) w' ∧ Abs C σ' η' (a.put o.dst v) w')
    (hr : alex C false ops rest K σ' η') : astep C false ops o rest K σ η := by
  intro Q hQ a w ⟨g, ha⟩ K' hK'
  obtain ⟨v, w', h1, h2⟩ := h g a w ha
  unfold Oper.wp
  rw [h1]
  exact hK' _ _ (hr Q hQ _ _ h2)
theorem estep0 {o : Oper} {σ' : Sl} {η' : List Ob} (h : ∀ g a w, AbsG C g σ η a w → ∃ w', (execOp a.eval o).run C.P w = .ok .skip w' ∧ Abs C σ' η' (a.put o.dst undef) w')
    (hr : alex C false ops rest K σ' η') : astep C false ops o rest K σ η := by
  intro Q hQ a w ⟨g, ha⟩ K' hK'
  obtain ⟨w', h1, h2⟩ := h g a w ha
  unfold Oper.wp
  rw [h1]
  exact hK' _ _ (hr Q hQ _ _ h2)

theorem absBoxT (et : Option TypeId) {g : Gh} {a : Act} {w : World} (ha : AbsG C g σ η a w) (e : TypeId) (het : ∀ t, et = some t → t = e) (us : Array Value) (cs : List SV) (hd : Nat.blt d C.N = true) (hro : C.ro ≤ η.length) (hl : us.size = cs.length) (h1 : ∀ u ∈ us, u.oneCell' = true)
    (hr : ∀ (j : Nat) (u : Value) (s : SV), us[j]? = some u → cs[j]? = some s → RepS g w u s) :
    Abs C ((d, .ptr η.length 0) :: σ) (η ++ [.bx none et cs]) (a.put (some d) (.pointer (some ⟨w.heap.size, 0, none⟩))) (w.alloc (.cells us e)) := by
  have hn := ha.inv.n
  let g' : Gh := { g with blk := upd g.blk g.n (some w.heap.size), n := g.n + 1 }
  have hold : ∀ id, id < g.n → g'.blk id = g.blk id ∧ g'.cap id = g.cap id ∧ g'.sz id = g.sz id := fun id hid => ⟨by simp [g', upd, Nat.ne_of_lt hid], rfl, rfl⟩
  have hbn : g'.blk g.n = some w.heap.size := by simp [g', upd]
  have kp : Keep g.St w g'.St (w.alloc (.cells us e)) := ⟨fun _ _ h => h, fun b o u hb hu => (World.cell?_of_block (a := ⟨b, o, none⟩) (Below.heap_alloc w _ b (ha.inv.st b o hb))).trans hu, fun b hb => Below.heap_alloc w _ b (ha.inv.st b 0 (hb 0))⟩
  have hab := ha.newOb (g' := g') (w' := w.alloc (.cells us e)) (.bx none et cs) rfl rfl rfl (by simp) (fun k hk => Below.heap_alloc w _ k hk) rfl hold
    (fun id hid => by
      have hne : id ≠ g.n := by omega
      simp only [g', upd, if_neg hne]
      exact ha.inv.dead id (by omega)) (fun b hb => by rw [hbn] at hb; injection hb with hb; subst hb; simp) (fun _ _ h => h) (fun _ _ h => .inl h) (fun b o hb => Nat.lt_of_lt_of_le (ha.inv.st b o hb) (by simp)) (by rw [hn]; exact hro)
    ⟨w.heap.size, e, us, hbn, _root_.Go.heap_alloc_new w _, hl, h1, fun j u s hu hs => (hr j u s hu hs).ext kp hold (by simp [g']), fun o ho => absurd (ha.inv.st _ o ho) (by omega), ⟨fun _ h => (by cases h), het⟩⟩
  exact ⟨g', hab.put (d := some d) hd ⟨by show η.length < g.n + 1; omega, w.heap.size, by rw [← hn]; exact hbn, rfl⟩⟩

theorem absBox {g : Gh} {a : Act} {w : World} (ha : AbsG C g σ η a w) (e : TypeId) (us : Array Value) (cs : List SV) (hd : Nat.blt d C.N = true) (hro : C.ro ≤ η.length) (hl : us.size = cs.length) (h1 : ∀ u ∈ us, u.oneCell' = true)
    (hr : ∀ (j : Nat) (u : Value) (s : SV), us[j]? = some u → cs[j]? = some s → RepS g w u s) :
    Abs C ((d, .ptr η.length 0) :: σ) (η ++ [.box cs]) (a.put (some d) (.pointer (some ⟨w.heap.size, 0, none⟩))) (w.alloc (.cells us e)) :=
  absBoxT none ha e (fun _ h => (by cases h)) us cs hd hro hl h1 hr

/-- a value is boxed -/
theorem aBox {s : SV} {cs : List SV} (hx : oval σ x = s) (hc : scells s = some cs) (hd : Nat.blt d C.N = true) (hro : Nat.ble C.ro η.length = true) (h : alex C false ops rest K ((d, .ptr η.length 0) :: σ) (η ++ [.box cs]) ) :
    astep C false ops ⟨some d, .box t x, ty, pos, after, gd⟩ rest K σ η := by
  refine estep (fun g a w ha => ?_) h
  have hr := ha.eval x
  rw [hx] at hr
  obtain ⟨h1, h2, h3⟩ := hr.cells hc
  exact ⟨_, _, by simp [execOp, Instr.box, newVar, newRow], absBox ha t (a.eval x).cells cs hd (Nat.le_of_ble_eq_true hro) h1 h2 h3⟩

/-- the zero value's cells -/
def zeroOf (P : Program) (t : TypeId) : Option (List Value) :=
  match P.info? t with
  | some i => match i.zero with
    | some z => match z.cells.all (·.oneCell') with
      | true => some z.cells.toList
      | false => none
    | none => none
  | none => none

/-- a variable is made -/
theorem aAlloc {zs : List Value} (hz : zeroOf C.P t = some zs) (hd : Nat.blt d C.N = true) (hro : Nat.ble C.ro η.length = true) (h : alex C false ops rest K ((d, .ptr η.length 0) :: σ) (η ++ [.box (zs.map cst)])) :
    astep C false ops ⟨some d, .alloc t, ty, pos, after, gd⟩ rest K σ η := by
  refine estep (fun g a w ha => ?_) h
  unfold zeroOf at hz
  split at hz
  · rename_i i hi
    split at hz
    · rename_i z hzz
      split at hz
      · rename_i hall
        injection hz with hz
        subst hz
        refine ⟨_, _, ?_, absBox ha t z.cells _ hd (Nat.le_of_ble_eq_true hro) (by simp) (Array.all_eq_true_iff_forall_mem.1 hall) (fun j u s hu hs => ?_)⟩
        · simp [execOp, Instr.alloc, zeroValue, typeInfo, hi, hzz, newVar, newRow]
        · rw [List.getElem?_map] at hs
          rw [← Array.getElem?_toList] at hu
          rw [hu] at hs
          simp at hs; subst hs; exact RepS.cst g w u
      · cases hz
    · cases hz
  · cases hz

/-- a variable is made; its type is kept in mind -/
theorem aAllocT {zs : List Value} (hz : zeroOf C.P t = some zs) (hd : Nat.blt d C.N = true) (hro : Nat.ble C.ro η.length = true) (h : alex C false ops rest K ((d, .ptr η.length 0) :: σ) (η ++ [.bx none (some t) (zs.map cst)])) :
    astep C false ops ⟨some d, .alloc t, ty, pos, after, gd⟩ rest K σ η := by
  refine estep (fun g a w ha => ?_) h
  unfold zeroOf at hz
  split at hz
  · rename_i i hi
    split at hz
    · rename_i z hzz
      split at hz
      · rename_i hall
        injection hz with hz
        subst hz
        refine ⟨_, _, ?_, absBoxT (some t) ha t (fun _ h => (Option.some.inj h).symm) z.cells _ hd (Nat.le_of_ble_eq_true hro) (by simp) (Array.all_eq_true_iff_forall_mem.1 hall) (fun j u s hu hs => ?_)⟩
        · simp [execOp, Instr.alloc, zeroValue, typeInfo, hi, hzz, newVar, newRow]
        · rw [List.getElem?_map] at hs
          rw [← Array.getElem?_toList] at hu
          rw [hu] at hs
          simp at hs; subst hs; exact RepS.cst g w u
      · cases hz
    · cases hz
  · cases hz

variable {P : Program} {dst : Option Nat}
theorem Y_field_p {f off id o : Nat} (hx : oval σ x = .ptr id o) (hf : fieldOff P t f = some off) : Ylds P η σ ⟨dst, .fieldAddr t x f, ty, pos, after, gd⟩ (.ptr id (o + off)) := by
  refine Ylds.same fun g w a hi h => ?_
  have h1 := h x (by simp [Op.operands]); rw [hx] at h1
  obtain ⟨hid, b, hb, hv⟩ := h1
  unfold fieldOff at hf
  split at hf
  · rename_i fs hfs
    split at hf
    · rename_i fl hfl
      split at hf
      · rename_i i hi'
        split at hf
        · cases hf
        · rename_i hne
          injection hf with hf
          subst hf
          refine ⟨.pointer (some ⟨b, o + fl.offset, none⟩), ?_, hid, b, hb, rfl⟩
          simp [execOp, hv, Instr.fieldAt, run_underlying hfs, hfl, Instr.sureAddr, fieldPlace, sizeOf, typeInfo, hi', hne, Addr.add_lit]
      · cases hf
    · cases hf
  · cases hf

/-- one cell of a box is read -/
theorem Y_load_p {id o n : Nat} {kb : Option Nat} {et : Option TypeId} {cs : List SV} {s : SV} (hx : oval σ x = .ptr id o) (ht : tyCells P t = some (false, n)) (ho : η[id]? = some (.bx kb et cs)) (hs : cs[o]? = some s) : Ylds P η σ ⟨dst, .load t x, ty, pos, after, gd⟩ s := by
  refine Ylds.same fun g w a hi h => ?_
  have h1 := h x (by simp [Op.operands]); rw [hx] at h1
  obtain ⟨hid, b, hb, hv⟩ := h1
  obtain ⟨b', e, us, h2, h3, h4, h5, h6, h7, _⟩ := hi.ob id _ ho
  rw [hb] at h2; injection h2 with h2; subst h2
  have hlt : o < us.size := by rw [h4]; exact (List.getElem?_eq_some_iff.1 hs).1
  refine ⟨us[o], ?_, h6 o _ _ (Array.getElem?_eq_getElem hlt) hs⟩
  have hc : w.cell? ⟨b, o, none⟩ = some us[o] := by rw [cell_of_row w b o us e (0, 0) h3]; exact Array.getElem?_eq_getElem hlt
  simp [execOp, hv, Instr.loadAt, Instr.sureAddr, loadVar, (tyCells_some ht w).1, hc]

/-- data, cell by cell -/
def toDs : List SV → Option (List D)
  | [] => some []
  | .d d :: r => match toDs r with
    | some ds => some (d :: ds)
    | none => none
  | .nil :: r => match toDs r with
    | some ds => some (.slice [] :: ds)
    | none => none
  | _ :: _ => none

theorem toDs_rep {g : Gh} {w : World} : ∀ {cs : List SV} {ds : List D}, toDs cs = some ds → cs.length = ds.length ∧ ∀ (j : Nat) (u : Value) (s : SV) (d : D), cs[j]? = some s → ds[j]? = some d → RepS g w u s → RepD g.St w u d
  | [], ds, h => by simp [toDs] at h; subst h; exact ⟨rfl, fun j u s d hs => by simp at hs⟩
  | s :: r, ds, h => by
    have nilRep : ∀ {v : Value}, RepS g w v .nil → RepD g.St w v (.slice []) := by
      intro v hv
      change v = _ at hv
      subst hv
      exact .slice none 0 0 0 [] [] rfl (Nat.le_refl _) (Nat.zero_le _) (by simp) rfl (by simp) (by simp) (by simp)
    cases s with
    | d d0 =>
      simp only [toDs] at h
      split at h
      · rename_i ds' hds
        injection h with h; subst h
        obtain ⟨h1, h2⟩ := toDs_rep (g := g) (w := w) hds
        refine ⟨by simp [h1], fun j u s d hs hd hr => ?_⟩
        match j with
        | 0 => simp at hs hd; subst hs; subst hd; exact hr
        | j + 1 => exact h2 j u s d (by simpa using hs) (by simpa using hd) hr
      · cases h
    | nil =>
      simp only [toDs] at h
      split at h
      · rename_i ds' hds
        injection h with h; subst h
        obtain ⟨h1, h2⟩ := toDs_rep (g := g) (w := w) hds
        refine ⟨by simp [h1], fun j u s d hs hd hr => ?_⟩
        match j with
        | 0 => simp at hs hd; subst hs; subst hd; exact nilRep hr
        | j + 1 => exact h2 j u s d (by simpa using hs) (by simpa using hd) hr
      · cases h
    | _ => simp [toDs] at h

/-- a whole struct is read from a box -/
theorem Y_load_pa {id o n : Nat} {kb : Option Nat} {et : Option TypeId} {cs : List SV} {ds : List D} (hx : oval σ x = .ptr id o) (ht : tyCells P t = some (true, n)) (ho : η[id]? = some (.bx kb et cs)) (hl : Nat.ble (o + n) cs.length = true) (hs : toDs ((cs.drop o).take n) = some ds) : Ylds P η σ ⟨dst, .load t x, ty, pos, after, gd⟩ (.d (.agg ds)) := by
  have hl := Nat.le_of_ble_eq_true hl
  refine Ylds.same fun g w a hi h => ?_
  have h1 := h x (by simp [Op.operands]); rw [hx] at h1
  obtain ⟨hid, b, hb, hv⟩ := h1
  obtain ⟨b', e, us, h2, h3, h4, h5, h6, h7, _⟩ := hi.ob id _ ho
  rw [hb] at h2; injection h2 with h2; subst h2
  have hrun := run_loadCells_list (P := P) w ⟨b, o, none⟩ ((us.toList.drop o).take n) (fun j v hj => by
    rw [List.getElem?_take] at hj
    split at hj
    · rw [Addr.add_lit, cell_of_row w b _ us e (0, 0) h3]
      simpa using hj
    · cases hj)
  have hlen : ((us.toList.drop o).take n).length = n := by rw [List.length_take, List.length_drop, Array.length_toList]; omega
  rw [hlen] at hrun
  obtain ⟨e1, e2⟩ := toDs_rep (g := g) (w := w) hs
  have hcl : ((cs.drop o).take n).length = n := by rw [List.length_take, List.length_drop]; omega
  refine ⟨.agg ((us.toList.drop o).take n).toArray, ?_, .agg _ _ (by omega) (fun u hm => h5 u (Array.mem_toList_iff.1 (List.mem_of_mem_drop (List.mem_of_mem_take hm)))) (fun j u d hj hd => ?_)⟩
  · simp only [execOp, hv, Instr.loadAt, Instr.sureAddr, loadVar, Sem.run_bind, Sem.run_pure, Result.andThen_ok, (tyCells_some ht w).1, (tyCells_some ht w).2, if_true, hrun]
  · have hjl : j < n := by
      have := (List.getElem?_eq_some_iff.1 hj).1; omega
    have hsj : ((cs.drop o).take n)[j]? = some (((cs.drop o).take n)[j]'(by omega)) := List.getElem?_eq_getElem (by omega)
    refine e2 j u _ d hsj hd (h6 (o + j) u _ ?_ ?_)
    · rw [List.getElem?_take, if_pos hjl] at hj; simpa using hj
    · rw [← hsj, List.getElem?_take, if_pos hjl]; simp

theorem aStore {id o n : Nat} {kb : Option Nat} {et : Option TypeId} {b0 : Bool} {cs vs : List SV} {s : SV} (hx : oval σ x = .ptr id o) (hy : oval σ y = s) (hv : scells s = some vs) (ht : tyCells C.P t = some (b0, n)) (ho : η[id]? = some (.bx kb et cs)) (hn : Nat.beq vs.length n = true) (hl : Nat.ble (o + n) cs.length = true) (hro : Nat.ble C.ro id = true)
    (h : alex C false ops rest K σ (η.set id (.bx kb et (cs.take o ++ vs ++ cs.drop (o + n))))) : astep C false ops ⟨none, .store t x y, ty, pos, after, gd⟩ rest K σ η := by
  have hl := Nat.le_of_ble_eq_true hl
  have hn := Nat.eq_of_beq_eq_true hn
  refine estep0 (fun g a w ha => ?_) h
  have hp := ha.eval x; rw [hx] at hp
  have hr := ha.eval y; rw [hy] at hr
  obtain ⟨hid, b, hb, hpv⟩ := hp
  obtain ⟨b', e, us, h2, h3, h4, h5, h6, h7, h8⟩ := ha.inv.ob id _ ho
  rw [hb] at h2; injection h2 with h2; subst h2
  obtain ⟨c1, c2, c3⟩ := hr.cells hv
  have hst := run_storeCells_at C.P b o e (a.eval y).cells.toList 0 us w h3 (by rw [Array.length_toList]; omega) (fun v hm => c2 v (by simpa using hm))
  simp only [Nat.add_zero] at hst
  refine ⟨_, ?_, g, ha.setBox ho h8 hb (Nat.le_of_ble_eq_true hro) h3 h7 (us' := (us.toList.take o ++ (a.eval y).cells.toList ++ us.toList.drop (o + (a.eval y).cells.toList.length)).toArray) ?_ ?_ ?_⟩
  · simp only [execOp, hpv, Instr.storeAt, Instr.sureAddr, storeVar, Sem.run_bind, Sem.run_pure, Result.andThen_ok, (tyCells_some ht w).2, c1, hn, ne_eq, not_true, if_false, hst]
  · simp; omega
  · intro u hu
    simp only [List.mem_toArray, List.mem_append] at hu
    rcases hu with (hu | hu) | hu
    · exact h5 u (by simpa using List.mem_of_mem_take hu)
    · exact c2 u (by simpa using hu)
    · exact h5 u (by simpa using List.mem_of_mem_drop hu)
  · intro j u s' hu hs
    have hcl : (a.eval y).cells.toList.length = vs.length := by rw [Array.length_toList]; exact c1
    simp only [List.getElem?_toArray] at hu
    rw [hcl, hn] at hu
    rcases Nat.lt_or_ge j o with hj | hj
    · rw [List.append_assoc, List.getElem?_append_left (by simp; omega), List.getElem?_take, if_pos hj] at hu hs
      exact h6 j u s' (by simpa using hu) hs
    · rw [List.append_assoc, List.getElem?_append_right (by simp; omega)] at hu hs
      have e1 : (us.toList.take o).length = o := by rw [List.length_take, Array.length_toList]; omega
      have e2 : (cs.take o).length = o := by rw [List.length_take]; omega
      rw [e1] at hu; rw [e2] at hs
      rcases Nat.lt_or_ge (j - o) n with hj2 | hj2
      · rw [List.getElem?_append_left (by omega)] at hu hs
        exact c3 (j - o) u s' (by simpa using hu) hs
      · rw [List.getElem?_append_right (by omega)] at hu hs
        rw [hcl, hn] at hu; rw [hn] at hs
        simp only [List.getElem?_drop] at hu hs
        exact h6 (o + n + (j - o - n)) u s' (by simpa using hu) hs
end

end Go.Sx
/- The engine: rows of the call's own: made, appended to, written; and slices. -/
namespace Go.Sx
open Go.RowKit

theorem Co_dd {η : List Ob} {s : SV} {d : D} (h : s = .d d) : Co η s d := by rw [h]; rfl
theorem Co_nn {η : List Ob} {s : SV} (h : s = .nil) : Co η s (.slice []) := by rw [h]; exact .inl rfl
theorem Co_bb {η : List Ob} {s : SV} {id n : Nat} {e sz : Nat} {xs : List D} (h : s = .buf id n) (ho : η[id]? = some (.buf false e sz xs)) (hn : n = xs.length) : Co η s (.slice xs) := by rw [h]; exact Co_buf ho hn

/-- a slice's datum, opened -/
theorem RepD.open_slice {St : Stab} {w : World} {v : Value} {xs : List D} (h : RepD St w v (.slice xs)) {sz : Nat} (hf : ∀ x ∈ xs, x.flat.length = sz) :
    ∃ (a : Option Addr) (cap : Nat) (us : List Value), v = .slice a xs.length cap ∧ xs.length ≤ cap ∧ cap ≤ maxLen ∧ us.length = xs.length * sz ∧ (∀ u ∈ us, u.oneCell' = true) ∧
      (0 < xs.length → ∃ ad, a = some ad ∧ ∀ (j : Nat) (u : Value), us[j]? = some u → Cell St w ad j u) ∧ ∀ (j : Nat) (u : Value) (d : D), us[j]? = some u → (flats xs)[j]? = some d → RepD St w u d := by
  cases h with
  | slice a len cap sz' _ us hlen hcap hm hsz hus h1 hcell hr =>
    subst hlen
    exact ⟨a, cap, us, rfl, hcap, hm, by rw [hus, flats_len hf], h1, hcell, hr⟩

section
variable {C : Ctx} {ops : Array Oper} {rest : List Oper} {K : Sl → List Ob → Prop} {σ : Sl} {η : List Ob} {d : Nat} {ty : TypeId} {pos : String} {after : Array Edge} {gd : Option (Nat × Bool)} {t : TypeId} {x y : Operand}

/-- A ROW MORE. -/
theorem AbsG.newBuf {g : Gh} {a : Act} {w w' : World} (ha : AbsG C g σ η a w) (mu : Bool) (e : TypeId) (sz cap : Nat) (us : Array Value) (xs : List D)
    (os : w'.os = w.os) (tape : w'.tape = w.tape) (output : w'.output = w.output) (size : w'.heap.size = w.heap.size + 1) (heap : ∀ k, k < w.heap.size → w'.heap[k]? = w.heap[k]?) (hB : w'.heap[w.heap.size]? = some (.cells us e (0, 0)))
    (hro : C.ro ≤ η.length) (hf : ∀ x ∈ xs, x.flat.length = sz) (hc : xs.length ≤ cap) (hm : cap ≤ maxLen) (hus : us.size = cap * sz)
    (h1 : ∀ (j : Nat) (u : Value), j < xs.length * sz → us[j]? = some u → u.oneCell' = true) (hr : ∀ (j : Nat) (u : Value) (d : D), us[j]? = some u → (flats xs)[j]? = some d → RepD g.St w u d) :
    AbsG C { St := fun b o => g.St b o ∨ (b = w.heap.size ∧ mu = false ∧ o < xs.length * sz), blk := upd g.blk g.n (some w.heap.size), cap := upd g.cap g.n cap, sz := upd g.sz g.n sz, n := g.n + 1 } σ (η ++ [.buf mu e sz xs]) a w' := by
  have hn := ha.inv.n
  refine ha.newOb (.buf mu e sz xs) os tape output (by omega) heap rfl (fun id hid => ?_) (fun id hid => ?_) (fun b hb => ?_) (fun _ _ h => .inl h) (fun b o hb => ?_) (fun b o hb => ?_) (by rw [hn]; exact hro) ⟨?_, hf, ?_, ?_, .inr ⟨w.heap.size, us, ?_, hB, ?_, h1, fun j u d hu hd => ?_, fun o => ⟨fun ho => ?_, fun ho => .inr ⟨rfl, ho⟩⟩⟩⟩
  · simp [upd, Nat.ne_of_lt hid]
  · have hne : id ≠ g.n := by omega
    simp only [upd, if_neg hne]
    exact ha.inv.dead id (by omega)
  · simp [upd] at hb; omega
  · rcases hb with hb | ⟨hb, _⟩
    · exact .inl hb
    · exact .inr (by omega)
  · rcases hb with hb | ⟨hb, _⟩
    · have := ha.inv.st b o hb; omega
    · omega
  · simp [upd]
  · simpa [upd] using hm
  · simpa [upd] using hc
  · simp [upd]
  · simpa [upd] using hus
  · exact (hr j u d hu hd).keep ⟨fun _ _ h => .inl h, fun b o u hb hu => (World.cell?_of_block (a := ⟨b, o, none⟩) (heap b (ha.inv.st b o hb))).trans hu, fun b hb => heap b (ha.inv.st b 0 (hb 0))⟩
  · rcases ho with ho | ⟨_, ho⟩
    · exact absurd (ha.inv.st _ o ho) (by omega)
    · exact ho

def bytesOf (P : Program) (t : TypeId) : Option Nat :=
  match elemTy P t with
  | some e => (P.info? e).map (·.bytes)
  | none => none

/-- one element of a list: an aggregate of cells, or one cell -/
def okc : D → Bool
  | .agg _ => true
  | .val u => u.oneCell'
  | .slice _ => true
  | .tup _ => false

theorem scells_ok {d : D} (h : okc d = true) : scells (.d d) = some (d.flat.map SV.d) := by
  cases d with
  | agg cs => rfl
  | val u => change u.oneCell' = true at h; simp [scells, one, h, D.flat]
  | slice xs => rfl
  | tup ds => cases h

theorem RepDs.cells {g : Gh} {w : World} {sz : Nat} : ∀ (vs : List Value) (ds : List D), RepDs g.St w vs ds → (∀ d ∈ ds, d.flat.length = sz) → ds.all okc = true → (∀ v ∈ vs, v.cells.size = sz ∧ ∀ u ∈ v.cells, u.oneCell' = true) ∧
    ∀ (j : Nat) (u : Value) (d : D), (vs.flatMap fun v => v.cells.toList)[j]? = some u → (flats ds)[j]? = some d → RepD g.St w u d
  | [], [], _, _, _ => ⟨by simp, by simp⟩
  | [], _ :: _, h, _, _ => h.elim
  | _ :: _, [], h, _, _ => h.elim
  | v :: vs, d0 :: ds, h, hf, hok => by
    obtain ⟨h1, h2⟩ := h
    simp only [List.all_cons, Bool.and_eq_true] at hok
    obtain ⟨i1, i2⟩ := RepDs.cells vs ds h2 (fun d hd => hf d (by simp [hd])) hok.2
    have hd0 := hf d0 (by simp)
    obtain ⟨c1, c2, c3⟩ := RepS.cells (g := g) (w := w) (s := .d d0) h1 (scells_ok hok.1)
    rw [List.length_map] at c1
    refine ⟨fun v' hv' => ?_, fun j u d' hu hd' => ?_⟩
    · rcases List.mem_cons.1 hv' with rfl | hv'
      · exact ⟨by omega, c2⟩
      · exact i1 v' hv'
    · have e1 : v.cells.toList.length = sz := by rw [Array.length_toList]; omega
      simp only [List.flatMap_cons, flats] at hu hd'
      rcases Nat.lt_or_ge j sz with hj | hj
      · rw [List.getElem?_append_left (by omega)] at hu hd'
        exact c3 j u (.d d') (by simpa using hu) (by rw [List.getElem?_map, hd']; rfl)
      · rw [List.getElem?_append_right (by omega)] at hu hd'
        rw [e1] at hu; rw [hd0] at hd'
        exact i2 _ u d' hu hd'

theorem flatMap_len {sz : Nat} : ∀ (vs : List Value), (∀ v ∈ vs, v.cells.size = sz) → (vs.flatMap fun v => v.cells.toList).length = vs.length * sz
  | [], _ => by simp
  | v :: vs, h => by
    have h1 := h v (by simp)
    rw [List.flatMap_cons, List.length_append, flatMap_len vs (fun v hv => h v (by simp [hv])), Array.length_toList, h1, List.length_cons, Nat.add_mul]; omega

/-- a slice literal -/
theorem aLit {sz e n : Nat} {xs : List Operand} {ds : List D} (he : elemTy C.P t = some e) (hs : elemSize C.P t = some sz) (hz : (zeroOf C.P e).isSome = true) (hp : Nat.blt 0 sz = true) (hb : Nat.ble (n * sz) 16777216 = true)
    (hl : xs.length = n) (hc : CoL η σ xs ds) (hf : ∀ d ∈ ds, d.flat.length = sz) (hok : ds.all okc = true) (hd : Nat.blt d C.N = true) (hro : Nat.ble C.ro η.length = true) {parts : Array (Nat × Operand)} (hparts : parts = ((xs.zipIdx 0).map fun x => (x.2, x.1)).toArray)
    (h : alex C false ops rest K ((d, .buf η.length ds.length) :: σ) (η ++ [.buf false e sz ds])) :
    astep C false ops ⟨some d, .buildSlice t n parts, ty, pos, after, gd⟩ rest K σ η := by
  have hp : 0 < sz := by simpa using hp
  have hb := Nat.le_of_ble_eq_true hb
  subst hparts
  refine estep (fun g a w ha => ?_) h
  obtain ⟨e', i, hu, hi, hsz⟩ := elemSize_some hs
  have : e' = e := by have := elemTy_some he; rw [hu] at this; injection this with this; injection this
  subst this
  have hrep := CoL.rep (a := a) ha.inv xs ds (fun x _ => ha.eval x) hc
  have hlen := hrep.len
  rw [List.length_map] at hlen
  obtain ⟨i1, i2⟩ := RepDs.cells _ ds hrep hf hok
  have hfl := flatMap_len (sz := sz) (xs.map a.eval) (fun v hv => (i1 v hv).1)
  rw [List.length_map, hl] at hfl
  let us := ((xs.map a.eval).flatMap fun v => v.cells.toList).toArray
  have hus : us.size = n * sz := by simpa [us] using hfl
  have hpe : ((((xs.zipIdx 0).map fun x => (x.2, x.1)).toArray).map fun (p : Nat × Operand) => (p.1, a.eval p.2)).toList = (((xs.map a.eval).zipIdx 0).map fun x => (x.2, x.1)) := by
    simp [List.zipIdx_map, List.map_map, Function.comp_def]
  have hrun : (Instr.buildSlice t n ((((xs.zipIdx 0).map fun x => (x.2, x.1)).toArray).map fun (p : Nat × Operand) => (p.1, a.eval p.2))).run C.P w = .ok (.slice (some ⟨w.heap.size, 0, none⟩) n n) (w.alloc (.cells us e')) := by
    have hzz : ∃ z, i.zero = some z := by
      unfold zeroOf at hz; rw [hi] at hz
      cases hq : i.zero with
      | none => simp [hq] at hz
      | some z => exact ⟨z, rfl⟩
    obtain ⟨z, hzz⟩ := hzz
    by_cases h0 : n = 0
    · subst h0
      have hx : xs = [] := List.eq_nil_of_length_eq_zero hl
      subst hx
      simp [Instr.buildSlice, run_underlying hu, sizeOf, typeInfo, hi, newRow, Instr.fill, us, Array.range_zero']
    · have hne : ¬ n * i.size = 0 := by rw [hsz]; intro h; rcases Nat.mul_eq_zero.1 h with h | h <;> omega
      have hfw := Great.fill_whole hp (xs.map a.eval) ((Array.range (n * i.size)).map (z.cells[· % z.cells.size]!)) (fun v hv => (i1 v hv).1) (by simp [hl, hsz])
      exact run_buildSlice w t e' n _ us i z hu hi hzz (by rw [hsz]; omega) hne (by rw [hpe]; rw [← hsz] at hfw; exact hfw)
  have hbuf := ha.newBuf (w' := w.alloc (.cells us e')) false e' sz n us ds rfl rfl rfl (by simp) (fun k hk => Below.heap_alloc w _ k hk) (_root_.Go.heap_alloc_new w _) (Nat.le_of_ble_eq_true hro) hf (by omega) (by simp only [maxLen]; have : n * 1 ≤ n * sz := Nat.mul_le_mul_left _ hp; omega) hus
    (fun j u _ hu => by
      have hm := Array.mem_of_getElem? hu
      simp only [us, List.mem_toArray, List.mem_flatMap] at hm
      obtain ⟨v, hv, hm⟩ := hm
      exact (i1 v hv).2 u (by simpa using hm))
    (fun j u d hu hd => i2 j u d (by simpa [us] using hu) hd)
  refine ⟨_, _, by simp only [execOp, Sem.run_bind]; rw [hrun]; rfl, _, hbuf.put (d := some d) hd ?_⟩
  refine ⟨?_, ?_⟩
  · show η.length < g.n + 1; have := ha.inv.n; omega
  · have hn := ha.inv.n
    show _ = Value.slice ((upd g.blk g.n (some w.heap.size) η.length).map _) _ (upd g.cap g.n n η.length)
    rw [← hn, ← hlen, hl]; simp [upd]

/-! ### append -/
def SV.kill (id : Nat) : SV → SV
  | .buf i n => match Nat.beq i id with
    | true => .top
    | false => .buf i n
  | .bptr i k o => match Nat.beq i id with
    | true => .top
    | false => .bptr i k o
  | .ptr i o => match Nat.beq i id with
    | true => .top
    | false => .ptr i o
  | .clo f ids => match ids.any (Nat.beq id) with
    | true => .top
    | false => .clo f ids
  | .mp i => match Nat.beq i id with
    | true => .top
    | false => .mp i
  | .pair a b => .pair (a.kill id) (b.kill id)
  | s => s
def killσ (id : Nat) : Sl → Sl
  | [] => []
  | (k, s) :: r => (k, s.kill id) :: killσ id r
def Ob.kill (id : Nat) : Ob → Ob
  | .bx k et cs => .bx k et (cs.map (SV.kill id))
  | .miter m since seen st => match Nat.beq m id with
    | true => .gone
    | false => .miter m since seen st
  | o => o
def killη (id : Nat) : List Ob → List Ob
  | [] => []
  | o :: r => o.kill id :: killη id r

theorem get_kill (id : Nat) : ∀ (σ : Sl) (t : Nat), get (killσ id σ) t = (get σ t).kill id
  | [], t => rfl
  | (k, s) :: r, t => by
    unfold killσ
    rw [get_cons, get_cons]
    split
    · rfl
    · exact get_kill id r t
theorem killη_len (id : Nat) : ∀ (η : List Ob), (killη id η).length = η.length
  | [] => rfl
  | _ :: r => by simp [killη, killη_len id r]
theorem killη_get (id : Nat) : ∀ (η : List Ob) (i : Nat), (killη id η)[i]? = (η[i]?).map (Ob.kill id)
  | [], i => by simp [killη]
  | o :: r, 0 => by simp [killη]
  | o :: r, i + 1 => by simp [killη, killη_get id r i]

/-- what does not name row id is kept where only row id has changed -/
theorem RepS.other {g g' : Gh} {w w' : World} {v : Value} {s : SV} {id : Nat} (k : Keep g.St w g'.St w') (h : ∀ i, i ≠ id → g'.blk i = g.blk i ∧ g'.cap i = g.cap i ∧ g'.sz i = g.sz i) (hn : g'.n = g.n)
    (r : RepS g w v s) : RepS g' w' v (s.kill id) := by
  have nb : ∀ {i : Nat}, Nat.beq i id = false → i ≠ id := fun he e => by subst e; simp at he
  induction s generalizing v with
  | d d => exact RepD.keep k r
  | nil => exact r
  | ptr i off =>
    cases he : Nat.beq i id with
    | true => simp only [SV.kill, he]; trivial
    | false =>
      simp only [SV.kill, he]
      obtain ⟨h1, b, h2, h3⟩ := r
      exact ⟨by omega, b, by rw [(h i (nb he)).1]; exact h2, h3⟩
  | rptr cs =>
    obtain ⟨ad, us, h1, h2, h3, h4, h5⟩ := r
    exact ⟨ad, us, h1, h2, h3, fun j u hu => (h4 j u hu).keep k, fun j u d hu hd => (h5 j u d hu hd).keep k⟩
  | bptr i j off =>
    cases he : Nat.beq i id with
    | true => simp only [SV.kill, he]; trivial
    | false =>
      simp only [SV.kill, he]
      obtain ⟨h1, b, h2, h3⟩ := r
      exact ⟨by omega, b, by rw [(h i (nb he)).1]; exact h2, by rw [(h i (nb he)).2.2]; exact h3⟩
  | buf i n =>
    cases he : Nat.beq i id with
    | true => simp only [SV.kill, he]; trivial
    | false =>
      simp only [SV.kill, he]
      obtain ⟨h1, h2⟩ := r
      exact ⟨by omega, by rw [(h i (nb he)).1, (h i (nb he)).2.1]; exact h2⟩
  | clo f ids =>
    cases he : ids.any (Nat.beq id) with
    | true => simp only [SV.kill, he]; trivial
    | false =>
      simp only [SV.kill, he]
      obtain ⟨vs, h1, h2, h3⟩ := r
      refine ⟨vs, h1, h2, fun j i u hj hu => ?_⟩
      obtain ⟨h4, b, h5, h6⟩ := h3 j i u hj hu
      have hne : i ≠ id := fun e => by
        subst e
        have := List.any_eq_false.1 he i (List.mem_of_getElem? hj)
        simp at this
      exact ⟨by omega, b, by rw [(h i hne).1]; exact h5, h6⟩
  | mp i =>
    cases he : Nat.beq i id with
    | true => simp only [SV.kill, he]; trivial
    | false =>
      simp only [SV.kill, he]
      obtain ⟨h1, b, h2, h3⟩ := r
      exact ⟨by omega, b, by rw [(h i (nb he)).1]; exact h2, h3⟩
  | pair a b ha hb => obtain ⟨u1, u2, h1, h2, h3⟩ := r; exact ⟨u1, u2, h1, ha h2, hb h3⟩
  | p φ => exact r
  | top => trivial

theorem bytesOf_some {P : Program} {t by' : Nat} (h : bytesOf P t = some by') : ∃ e i, P.underlying t = some (.slice e) ∧ P.info? e = some i ∧ i.bytes = by' := by
  unfold bytesOf at h
  split at h
  · rename_i e he
    cases hi : P.info? e with
    | none => simp [hi] at h
    | some i => simp [hi] at h; exact ⟨e, i, elemTy_some he, hi, h⟩
  · cases h

/-- what append does to a row of the call's own -/
theorem run_append_sx {P : Program} (w : World) (t ty e : TypeId) (i : TypeInfo) (z : Value) (ht : P.underlying t = some (.slice e)) (hi : P.info? e = some i) (hz : i.zero = some z) (hzs : z.cells.size = i.size)
    (ob : Option Nat) (n cap : Nat) (us : Array Value) (hob : (ob = none ∧ cap = 0 ∧ n = 0) ∨ ∃ b, ob = some b ∧ w.heap[b]? = some (.cells us e (0, 0)) ∧ us.size = cap * i.size ∧ n ≤ cap)
    (src : Option Addr) (m c : Nat) (news : List Value) (hl : news.length = m * i.size) (hs : 0 < m → ∃ ad, src = some ad ∧ ∀ (j : Nat) (u : Value), news[j]? = some u → w.cell? (ad.add j) = some u) (h1 : ∀ u ∈ news, u.oneCell' = true)
    (hbytes : (n + m) * i.bytes ≤ 140737488355328) (h63 : n + m ≤ maxLen) (hcm : cap ≤ maxLen) :
    ∃ (ob' : Option Nat) (cap' : Nat) (w' : World), (Builtin.append_ #[t, t] ty #[.slice (ob.map (⟨·, 0, none⟩)) n cap, .slice src m c]).run P w = .ok (.slice (ob'.map (⟨·, 0, none⟩)) (n + m) cap') w' ∧
      n + m ≤ cap' ∧ cap' ≤ maxLen ∧ w'.os = w.os ∧ w'.tape = w.tape ∧ w'.output = w.output ∧ w.heap.size ≤ w'.heap.size ∧
      ((ob' = none ∧ cap' = 0 ∧ n + m = 0 ∧ ob = none ∧ w' = w) ∨ ∃ (b' : Nat) (us' : Array Value), ob' = some b' ∧ w'.heap[b']? = some (.cells us' e (0, 0)) ∧ us'.size = cap' * i.size ∧ b' < w'.heap.size ∧
        (∀ j, j < n * i.size → us'[j]? = us[j]?) ∧ (∀ (j : Nat), j < m * i.size → us'[n * i.size + j]? = news[j]?) ∧
        ((ob = some b' ∧ ∀ k, k ≠ b' → w'.heap[k]? = w.heap[k]?) ∨ (w.heap.size ≤ b' ∧ ∀ k, k < w.heap.size → w'.heap[k]? = w.heap[k]?))) := by
  have h63' : n + m ≤ 9223372036854775807 := by simp only [maxLen] at h63; omega
  by_cases hm : m = 0
  · subst hm
    have hn : news = [] := List.eq_nil_of_length_eq_zero (by simpa using hl)
    subst hn
    rcases hob with ⟨rfl, rfl, rfl⟩ | ⟨b, rfl, hh, hsz, hnc⟩
    · refine ⟨none, 0, w, ?_, by omega, by simp [maxLen], rfl, rfl, rfl, Nat.le_refl _, .inl ⟨rfl, rfl, rfl, rfl, rfl⟩⟩
      cases src <;> simp [Builtin.append_, run_underlying ht, sizeOf, typeInfo, hi, Builtin.lenOf, Builtin.firstCells, loadCells, loadCellsFrom]
    · refine ⟨some b, cap, w, ?_, by omega, hcm, rfl, rfl, rfl, Nat.le_refl _, .inr ⟨b, us, rfl, hh, hsz, (Array.getElem?_eq_some_iff.1 hh).1, fun _ _ => rfl, fun j hj => by omega, .inl ⟨rfl, fun _ _ => rfl⟩⟩⟩
      cases src <;> simp [Builtin.append_, run_underlying ht, sizeOf, typeInfo, hi, Builtin.lenOf, Builtin.firstCells, loadCells, loadCellsFrom, hnc, storeCells]
  · obtain ⟨ad, rfl, hnews⟩ := hs (by omega)
    rcases hob with ⟨rfl, rfl, rfl⟩ | ⟨b, rfl, hh, hsz, hnc⟩
    · have hr := run_append_nil (P := P) w t ty e i z ht hi hz ad m c news hl hnews (by omega) (by omega) (by rw [Nat.zero_add] at hbytes; omega)
      have hge := grownCap_ge w m 0 e
      refine ⟨some w.heap.size, grownCap w m 0 e, w.drew.alloc (.cells (news.toArray ++ Builtin.zeroCells z.cells (grownCap w m 0 e - m)) e), by simpa using hr, by omega, grownCap_le_maxLen w m 0 e (by omega), rfl, rfl, rfl, by simp, .inr ⟨w.heap.size, _, rfl, _root_.Go.heap_alloc_new w.drew _, ?_, by simp, fun j hj => by omega, fun j hj => ?_, .inr ⟨Nat.le_refl _, fun k hk => Below.heap_alloc w.drew _ k hk⟩⟩⟩
      · simp only [Array.size_append, List.size_toArray, size_zeroCells, hzs, hl]
        rw [← Nat.add_mul]; congr 1; omega
      · rw [Array.getElem?_append_left (by simp; omega)]
        simp
    · by_cases hroom : n + m ≤ cap
      · have hmul : (n + m) * i.size ≤ cap * i.size := Nat.mul_le_mul_right _ hroom
        rw [Nat.add_mul] at hmul
        have hr := run_append_room (P := P) w t ty e i ht hi b n cap us hh ad m c news hl hnews h1 hroom (by omega)
        have hub : b < w.heap.size := (Array.getElem?_eq_some_iff.1 hh).1
        refine ⟨some b, cap, _, hr, hroom, hcm, rfl, rfl, rfl, by simp, .inr ⟨b, _, rfl, setRow_heap w b us _ e (0, 0) hh, ?_, by simpa using hub, fun j hj => ?_, fun j hj => ?_, .inl ⟨rfl, fun k hk => setRow_other w b k _ hk⟩⟩⟩
        · simp only [List.size_toArray, List.length_append, List.length_take, List.length_drop, Array.length_toList]; omega
        · simp only [List.getElem?_toArray]
          rw [List.append_assoc, List.getElem?_append_left (by simp; omega), List.getElem?_take, if_pos hj]; simp
        · simp only [List.getElem?_toArray]
          have e1 : (us.toList.take (n * i.size)).length = n * i.size := by rw [List.length_take, Array.length_toList]; omega
          rw [List.append_assoc, List.getElem?_append_right (by omega), e1, Nat.add_sub_cancel_left, List.getElem?_append_left (by omega)]
      · have hnsz : n * i.size ≤ us.size := by rw [hsz]; exact Nat.mul_le_mul_right _ hnc
        have holds : ∀ j v, (us.toList.take (n * i.size))[j]? = some v → w.cell? ((⟨b, 0, none⟩ : Addr).add j) = some v := by
          intro j v hj
          rw [List.getElem?_take] at hj
          split at hj
          · rw [Addr.add_lit, Nat.zero_add, cell_of_row w b j us e (0, 0) hh]; simpa using hj
          · cases hj
        have hr := run_append_grow (P := P) w t ty e i z ht hi hz ⟨b, 0, none⟩ n cap (us.toList.take (n * i.size)) (by rw [List.length_take, Array.length_toList]; omega) holds ad m c news hl hnews (by omega) (by omega) (growslice_fits (by omega) hbytes)
        have hge := grownCap_ge w (n + m) cap e
        have e1 : (us.toList.take (n * i.size)).length = n * i.size := by rw [List.length_take, Array.length_toList]; omega
        refine ⟨some w.heap.size, grownCap w (n + m) cap e, _, hr, hge, grownCap_le_maxLen w (n + m) cap e h63, rfl, rfl, rfl, by simp, .inr ⟨w.heap.size, _, rfl, _root_.Go.heap_alloc_new w.drew _, ?_, by simp, fun j hj => ?_, fun j hj => ?_, .inr ⟨Nat.le_refl _, fun k hk => Below.heap_alloc w.drew _ k hk⟩⟩⟩
        · simp only [Array.size_append, List.size_toArray, size_zeroCells, hzs, hl, e1]
          rw [← Nat.add_mul, ← Nat.add_mul]; congr 1; omega
        · rw [Array.append_assoc, Array.getElem?_append_left (by simp; omega)]
          simp [hj]
        · rw [Array.append_assoc, Array.getElem?_append_right (by simp; omega)]
          rw [List.size_toArray, e1, Nat.add_sub_cancel_left, Array.getElem?_append_left (by simp; omega)]
          simp
end

end Go.Sx
/- The engine: append; rows made and written; slices of slices. -/
namespace Go.Sx
open Go.RowKit

section
variable {C : Ctx} {ops : Array Oper} {rest : List Oper} {K : Sl → List Ob → Prop} {σ : Sl} {η : List Ob} {d : Nat} {ty : TypeId} {pos : String} {after : Array Edge} {gd : Option (Nat × Bool)} {t : TypeId} {x y : Operand}

/-- A ROW TURNS. -/
theorem AbsG.setBuf {g : Gh} {a : Act} {w w' : World} (h : AbsG C g σ η a w) {id e sz cap' : Nat} {mu mu' : Bool} {xs xs' : List D} {ob' : Option Nat} {St' : Stab} (hid : η[id]? = some (.buf mu e sz xs)) (hro : C.ro ≤ id)
    (os : w'.os = w.os) (tape : w'.tape = w.tape) (output : w'.output = w.output) (size : w.heap.size ≤ w'.heap.size) (heap : ∀ k, k < w.heap.size → g.blk id ≠ some k → w'.heap[k]? = w.heap[k]?)
    (hnew : ∀ b, ob' = some b → (g.blk id = some b ∨ w.heap.size ≤ b) ∧ b < w'.heap.size) (kp : Keep g.St w St' w') (new : ∀ b o, St' b o → g.St b o ∨ ob' = some b) (lt : ∀ b o, St' b o → b < w'.heap.size)
    (ok : ObOk { g with St := St', blk := upd g.blk id ob', cap := upd g.cap id cap' } w' id (.buf mu' e sz xs')) :
    AbsG C { g with St := St', blk := upd g.blk id ob', cap := upd g.cap id cap' } (killσ id σ) ((killη id η).set id (.buf mu' e sz xs')) a w' := by
  have hidl : id < η.length := (List.getElem?_eq_some_iff.1 hid).1
  have hn := h.inv.n
  have hsame : ∀ i, i ≠ id → ({ g with St := St', blk := upd g.blk id ob', cap := upd g.cap id cap' } : Gh).blk i = g.blk i ∧ ({ g with St := St', blk := upd g.blk id ob', cap := upd g.cap id cap' } : Gh).cap i = g.cap i ∧ ({ g with St := St', blk := upd g.blk id ob', cap := upd g.cap id cap' } : Gh).sz i = g.sz i :=
    fun i hi => ⟨by simp [upd, hi], by simp [upd, hi], rfl⟩
  have hblk : ∀ i b, upd g.blk id ob' i = some b → (i ≠ id ∧ g.blk i = some b) ∨ (i = id ∧ (g.blk id = some b ∨ w.heap.size ≤ b) ∧ b < w'.heap.size) := by
    intro i b hb
    unfold upd at hb
    split at hb
    · rename_i e; exact .inr ⟨e, hnew b hb⟩
    · rename_i e; exact .inl ⟨e, hb⟩
  have ro : ∀ {v : Value} {s : SV}, RepS g w v s → RepS { g with St := St', blk := upd g.blk id ob', cap := upd g.cap id cap' } w' v (s.kill id) := fun r => r.other kp hsame rfl
  have hother : ∀ i b, i ≠ id → g.blk i = some b → w'.heap[b]? = w.heap[b]? ∧ ∀ o, St' b o ↔ g.St b o := by
    intro i b hi hb
    have hbl := h.inv.lt i b hb
    refine ⟨heap b hbl (fun e => hi (h.inv.inj i id b hb e)), fun o => ⟨fun ho => ?_, kp.sub b o⟩⟩
    rcases new b o ho with h1 | h1
    · exact h1
    · rcases (hnew b h1).1 with h2 | h2
      · exact absurd (h.inv.inj i id b hb h2) hi
      · omega
  refine ⟨h.defers, h.size, ⟨by rw [List.length_set, killη_len]; exact hn, fun i b hb => ?_, fun i hi => ?_, fun i j b hi hj => ?_, fun i o ho => ?_, lt, h.inv.gl.keep kp⟩, os.trans h.os, tape.trans h.tape, output.trans h.output, Nat.le_trans h.wsize size, fun k hk hx => ?_, h.keep.trans kp, fun b o hb => ?_, fun i b hb hr => ?_, fun t => ?_⟩
  · rcases hblk i b hb with ⟨_, h1⟩ | ⟨_, _, h1⟩
    · exact Nat.lt_of_lt_of_le (h.inv.lt i b h1) size
    · exact h1
  · have hne : i ≠ id := by have : g.n ≤ i := hi; omega
    show upd g.blk id ob' i = none
    simp only [upd, if_neg hne]
    exact h.inv.dead i hi
  · rcases hblk i b hi with ⟨h1, h2⟩ | ⟨h1, h2, _⟩ <;> rcases hblk j b hj with ⟨h3, h4⟩ | ⟨h3, h4, _⟩
    · exact h.inv.inj i j b h2 h4
    · rcases h4 with h4 | h4
      · exact absurd (h.inv.inj i id b h2 h4) h1
      · exact absurd (h.inv.lt i b h2) (by omega)
    · rcases h2 with h2 | h2
      · exact absurd (h.inv.inj j id b h4 h2) h3
      · exact absurd (h.inv.lt j b h4) (by omega)
    · omega
  · rw [List.getElem?_set] at ho
    split at ho
    · rename_i e; subst e
      rw [if_pos (by rw [killη_len]; exact hidl)] at ho
      injection ho with ho; subst ho; exact ok
    · rename_i e
      have e : i ≠ id := fun h => e h.symm
      rw [killη_get] at ho
      cases hq : η[i]? with
      | none => simp [hq] at ho
      | some o0 =>
        simp [hq] at ho; subst ho
        have := h.inv.ob i o0 hq
        cases o0 with
        | bx kb et cs =>
          obtain ⟨b, e1, us, h1, h2, h3, h4, h5, h6, h7⟩ := this
          obtain ⟨k1, k2⟩ := hother i b e h1
          refine ⟨b, e1, us, by rw [(hsame i e).1]; exact h1, k1.trans h2, by simpa using h3, h4, fun j u s hu hs => ?_, fun o ho => h6 o ((k2 o).1 ho), h7⟩
          rw [List.getElem?_map] at hs
          cases hc : cs[j]? with
          | none => simp [hc] at hs
          | some s0 => simp [hc] at hs; subst hs; exact ro (h5 j u s0 hu hc)
        | buf mu2 e2 sz2 ys =>
          obtain ⟨h1, h2, h3, h4, h5⟩ := this
          refine ⟨h1, h2, by rw [(hsame i e).2.1]; exact h3, by rw [(hsame i e).2.1]; exact h4, ?_⟩
          rcases h5 with h5 | ⟨b, us, h5, h6, h7, h8, h9, h10⟩
          · exact .inl (by rw [(hsame i e).1, (hsame i e).2.1]; exact h5)
          · obtain ⟨k1, k2⟩ := hother i b e h5
            exact .inr ⟨b, us, by rw [(hsame i e).1]; exact h5, k1.trans h6, by rw [(hsame i e).2.1]; exact h7, h8, fun j u d hu hd => (h9 j u d hu hd).keep kp, fun o => (k2 o).trans (h10 o)⟩
        | iter s pos =>
          obtain ⟨b, h1, h2, h3⟩ := this
          obtain ⟨k1, k2⟩ := hother i b e h1
          exact ⟨b, by rw [(hsame i e).1]; exact h1, k1.trans h2, fun o ho => h3 o ((k2 o).1 ho)⟩
        | map kb l =>
          obtain ⟨b, es, h1, h2, h3, h4, h5, h6⟩ := this
          obtain ⟨k1, k2⟩ := hother i b e h1
          exact ⟨b, es, by rw [(hsame i e).1]; exact h1, k1.trans h2, h3, fun j e p he hp => ⟨(h4 j e p he hp).1, (h4 j e p he hp).2.1, (h4 j e p he hp).2.2.keep kp⟩, fun o ho => h5 o ((k2 o).1 ho), h6⟩
        | miter m since seen st =>
          simp only [Ob.kill]
          cases hm : Nat.beq m id with
          | true => trivial
          | false =>
            have hne : m ≠ id := fun e => by subst e; simp at hm
            obtain ⟨b, bm, h1, h2, h3, h4, h5⟩ := this
            obtain ⟨k1, k2⟩ := hother i b e h1
            exact ⟨b, bm, by rw [(hsame i e).1]; exact h1, h2, by rw [(hsame m hne).1]; exact h3, k1.trans h4, fun o ho => h5 o ((k2 o).1 ho)⟩
        | gone => trivial
  · rw [heap k (Nat.lt_of_lt_of_le hk h.wsize) (fun e => ?_)]
    · exact h.heap k hk hx
    · rcases h.own id k e hro with h1 | h1
      · omega
      · exact hx h1
  · rcases new b o hb with h1 | h1
    · exact h.new b o h1
    · rcases (hnew b h1).1 with h2 | h2
      · exact (h.own id b h2 hro).elim (fun h => .inr (.inl h)) (fun h => .inr (.inr h))
      · exact .inr (.inl (Nat.le_trans h.wsize h2))
  · rcases hblk i b hb with ⟨h1, h2⟩ | ⟨h1, h2, _⟩
    · exact h.own i b h2 hr
    · subst h1
      rcases h2 with h2 | h2
      · exact h.own i b h2 hr
      · exact .inl (Nat.le_trans h.wsize h2)
  · rw [get_kill]; exact ro (h.rep t)

def zeroLen (P : Program) (e : TypeId) : Option Nat := (zeroOf P e).map List.length

theorem zeroLen_some {P : Program} {e sz : Nat} {i : TypeInfo} (hi : P.info? e = some i) (h : zeroLen P e = some sz) : ∃ z, i.zero = some z ∧ z.cells.size = sz := by
  unfold zeroLen zeroOf at h
  rw [hi] at h
  cases hq : i.zero with
  | none => simp [hq] at h
  | some z =>
    simp only [hq] at h
    split at h
    · simp at h; exact ⟨z, rfl, h⟩
    · cases h

theorem flats_append (xs ys : List D) : flats (xs ++ ys) = flats xs ++ flats ys := by simp [flats]

/-- what the run of append comes to -/
def AppRun (P : Program) (ts : Array TypeId) (ty : TypeId) (e sz : Nat) (w : World) (ob : Option Nat) (n cap : Nat) (us : Array Value) (v : Value) (m : Nat) (news : List Value) : Prop :=
  ∃ (ob' : Option Nat) (cap' : Nat) (w' : World), (Builtin.append_ ts ty #[.slice (ob.map (⟨·, 0, none⟩)) n cap, v]).run P w = .ok (.slice (ob'.map (⟨·, 0, none⟩)) (n + m) cap') w' ∧
      n + m ≤ cap' ∧ cap' ≤ maxLen ∧ w'.os = w.os ∧ w'.tape = w.tape ∧ w'.output = w.output ∧ w.heap.size ≤ w'.heap.size ∧
      ((ob' = none ∧ cap' = 0 ∧ n + m = 0 ∧ ob = none ∧ w' = w) ∨ ∃ (b' : Nat) (us' : Array Value), ob' = some b' ∧ w'.heap[b']? = some (.cells us' e (0, 0)) ∧ us'.size = cap' * sz ∧ b' < w'.heap.size ∧
        (∀ j, j < n * sz → us'[j]? = us[j]?) ∧ (∀ (j : Nat), j < m * sz → us'[n * sz + j]? = news[j]?) ∧
        ((ob = some b' ∧ ∀ k, k ≠ b' → w'.heap[k]? = w.heap[k]?) ∨ (w.heap.size ≤ b' ∧ ∀ k, k < w.heap.size → w'.heap[k]? = w.heap[k]?)))

theorem aAppG {id n e' sz : Nat} {mu : Bool} {xs ys : List D} {ts : Array TypeId} (hx : oval σ x = .buf id n) (ho : η[id]? = some (.buf mu e' sz xs)) (hn : n ≤ xs.length) (hmu : mu = false → n = xs.length)
    (hf : ∀ d ∈ ys, d.flat.length = sz) (hd : Nat.blt d C.N = true) (hro : Nat.ble C.ro id = true)
    (hR : ∀ (g : Gh) (a : Act) (w : World) (us : Array Value), AbsG C g σ η a w → g.cap id ≤ maxLen → ((g.blk id = none ∧ g.cap id = 0 ∧ n = 0) ∨ ∃ b, g.blk id = some b ∧ w.heap[b]? = some (.cells us e' (0, 0)) ∧ us.size = g.cap id * sz ∧ n ≤ g.cap id) →
      ∃ news : List Value, news.length = ys.length * sz ∧ (∀ u ∈ news, u.oneCell' = true) ∧ (∀ (j : Nat) (u : Value) (d : D), news[j]? = some u → (flats ys)[j]? = some d → RepD g.St w u d) ∧ AppRun C.P ts ty e' sz w (g.blk id) n (g.cap id) us (a.eval y) ys.length news)
    (h : alex C false ops rest K ((d, .buf id (n + ys.length)) :: killσ id σ) ((killη id η).set id (.buf mu e' sz (xs.take n ++ ys)))) :
    astep C false ops ⟨some d, .call ⟨.builtin .append, #[x, y], ts⟩, ty, pos, after, gd⟩ rest K σ η := by
  refine estep (fun g a w ha => ?_) h
  have hro := Nat.le_of_ble_eq_true hro
  have hxr := ha.eval x; rw [hx] at hxr
  obtain ⟨hidn, hxv⟩ := hxr
  obtain ⟨o1, o2, o3, o4, o5⟩ := ha.inv.ob id _ ho
  have hgsz : g.sz id = sz := o1
  have hob : (g.blk id = none ∧ g.cap id = 0 ∧ n = 0) ∨ ∃ b us, g.blk id = some b ∧ w.heap[b]? = some (.cells us e' (0, 0)) ∧ us.size = g.cap id * sz ∧
        (∀ (j : Nat) (u : Value), j < xs.length * sz → us[j]? = some u → u.oneCell' = true) ∧ (∀ (j : Nat) (u : Value) (d : D), us[j]? = some u → (flats xs)[j]? = some d → RepD g.St w u d) ∧ ∀ o, g.St b o ↔ (mu = false ∧ o < xs.length * sz) := by
    rcases o5 with ⟨h1, h2⟩ | ⟨b, us, h1, h2, h3, h4, h5, h6⟩
    · exact .inl ⟨h1, h2, by omega⟩
    · exact .inr ⟨b, us, h1, h2, h3, h4, h5, h6⟩
  have hus0 : ∃ us : Array Value, (g.blk id = none ∧ g.cap id = 0 ∧ n = 0) ∨ ∃ b, g.blk id = some b ∧ w.heap[b]? = some (.cells us e' (0, 0)) ∧ us.size = g.cap id * sz ∧ n ≤ g.cap id := by
    rcases hob with h1 | ⟨b, us, h1, h2, h3, _⟩
    · exact ⟨#[], .inl h1⟩
    · exact ⟨us, .inr ⟨b, h1, h2, h3, by omega⟩⟩
  obtain ⟨us, hus⟩ := hus0
  obtain ⟨news, hnl, hn1, hnrep, ob', cap', w', hrun, hcap, hcm, wos, wtape, wout, wsz, hres⟩ := hR g a w us ha o3 hus
  let St' : Stab := fun b o => g.St b o ∨ (ob' = some b ∧ mu = false ∧ o < (n + ys.length) * sz)
  have hflx : (flats (xs.take n)).length = n * sz := by rw [flats_len (fun d hd => o2 d (List.mem_of_mem_take hd)), List.length_take]; congr 1; omega
  have hfly : (flats ys).length = ys.length * sz := flats_len hf
  -- the heap away from the row
  have hheap : ∀ k, k < w.heap.size → g.blk id ≠ some k → w'.heap[k]? = w.heap[k]? := by
    intro k hk hne
    rcases hres with ⟨_, _, _, _, rfl⟩ | ⟨b', us', rfl, _, _, _, _, _, h1 | h1⟩
    · rfl
    · exact h1.2 k (fun e => hne (by rw [h1.1, e]))
    · exact h1.2 k hk
  have hkeep : Keep g.St w St' w' := by
    refine ⟨fun _ _ h => .inl h, fun b o u hb hu => ?_, fun b hb => hheap b (ha.inv.st b 0 (hb 0)) fun hbb => ?_⟩
    rotate_left
    · rcases hob with ⟨h1, _⟩ | ⟨b0, us0, h1, h2, h3, h4, h5, h6⟩
      · rw [h1] at hbb; cases hbb
      · rw [h1] at hbb; injection hbb with hbb; subst hbb
        have := (h6 _).1 (hb (xs.length * sz)); omega
    by_cases hbb : g.blk id = some b
    · rcases hob with ⟨h1, _⟩ | ⟨b0, us0, h1, h2, h3, h4, h5, h6⟩
      · rw [h1] at hbb; cases hbb
      · rw [h1] at hbb; injection hbb with hbb; subst hbb
        have hus' : us = us0 := by
          rcases hus with ⟨q, _⟩ | ⟨b2, q1, q2, _⟩
          · rw [h1] at q; cases q
          · rw [h1] at q1; injection q1 with q1; subst q1; rw [h2] at q2; injection q2 with q2; injection q2 with q2; exact q2.symm
        subst hus'
        have hol := (h6 o).1 hb
        have hnx := hmu hol.1
        rw [cell_of_row w b0 o us e' (0, 0) h2] at hu
        rcases hres with ⟨_, _, _, q, _⟩ | ⟨b', us', rfl, q1, q2, q3, q4, q5, q6 | q6⟩
        · rw [h1] at q; cases q
        · rw [h1] at q6; obtain ⟨q6, _⟩ := q6; injection q6 with q6; subst q6
          rw [cell_of_row w' b0 o us' e' (0, 0) q1, q4 o (by rw [hnx]; exact hol.2)]; exact hu
        · rw [World.cell?_of_block (w := w) (a := ⟨b0, o, none⟩) (q6.2 b0 (ha.inv.lt id b0 h1)), cell_of_row w b0 o us e' (0, 0) h2]; exact hu
    · exact (World.cell?_of_block (w := w) (a := ⟨b, o, none⟩) (hheap b (ha.inv.st b o hb) hbb)).trans hu
  have hab := ha.setBuf (w' := w') (ob' := ob') (cap' := cap') (mu' := mu) (xs' := xs.take n ++ ys) (St' := St') ho hro wos wtape wout wsz hheap
    (fun b hb => by
      rcases hres with ⟨q, _⟩ | ⟨b', us', q0, q1, q2, q3, q4, q5, q6 | q6⟩
      · rw [q] at hb; cases hb
      · rw [q0] at hb; injection hb with hb; subst hb; exact ⟨.inl q6.1, q3⟩
      · rw [q0] at hb; injection hb with hb; subst hb; exact ⟨.inr q6.1, q3⟩) hkeep
    (fun b o hb => hb.imp_right (·.1))
    (fun b o hb => by
      rcases hb with hb | ⟨hb, _⟩
      · exact Nat.lt_of_lt_of_le (ha.inv.st b o hb) wsz
      · rcases hres with ⟨q, _⟩ | ⟨b', us', q0, q1, q2, q3, _⟩
        · rw [q] at hb; cases hb
        · rw [q0] at hb; injection hb with hb; subst hb; exact q3)
    ⟨hgsz, fun d hd => by
        rcases List.mem_append.1 hd with hd | hd
        · exact o2 d (List.mem_of_mem_take hd)
        · exact hf d hd, by simpa [upd] using hcm, by simp [upd]; omega, by
      rcases hres with ⟨q, q1, q2, _⟩ | ⟨b', us', q0, q1, q2, q3, q4, q5, q6⟩
      · exact .inl ⟨by simp [upd, q], by simp [upd, q1]⟩
      · have hlen' : (xs.take n ++ ys).length = n + ys.length := by simp; omega
        -- each cell of the new row
        have cellsOf : ∀ j u, j < (n + ys.length) * sz → us'[j]? = some u → u.oneCell' = true ∧ ∀ d, (flats (xs.take n ++ ys))[j]? = some d → RepD g.St w u d := by
          intro j u hj hu
          rw [flats_append]
          rcases Nat.lt_or_ge j (n * sz) with hj2 | hj2
          · rw [q4 j hj2] at hu
            rcases hob with ⟨_, _, h0⟩ | ⟨b0, us0, h1, h2, h3, h4, h5, h6⟩
            · subst h0; omega
            · have hus' : us = us0 := by
                rcases hus with ⟨q, _⟩ | ⟨b2, q1, q2, _⟩
                · rw [h1] at q; cases q
                · rw [h1] at q1; injection q1 with q1; subst q1; rw [h2] at q2; injection q2 with q2; injection q2 with q2; exact q2.symm
              subst hus'
              refine ⟨h4 j u (Nat.lt_of_lt_of_le hj2 (Nat.mul_le_mul_right _ hn)) hu, fun d hd => h5 j u d hu ?_⟩
              rw [List.getElem?_append_left (by rw [hflx]; exact hj2), flats_take o2, List.getElem?_take, if_pos hj2] at hd
              exact hd
          · obtain ⟨j', rfl⟩ : ∃ j', j = n * sz + j' := ⟨j - n * sz, by omega⟩
            rw [Nat.add_mul] at hj
            rw [q5 j' (by omega)] at hu
            refine ⟨hn1 u (List.mem_of_getElem? hu), fun d hd => hnrep j' u d hu ?_⟩
            rw [List.getElem?_append_right (by rw [hflx]; omega), hflx, Nat.add_sub_cancel_left] at hd
            exact hd
        refine .inr ⟨b', us', by simp [upd, q0], q1, by simpa [upd] using q2, fun j u hj hu => (cellsOf j u (by rw [← hlen']; exact hj) hu).1, fun j u d hu hd => ?_, fun o => ⟨fun hb => ?_, fun hb => .inr ⟨q0, hb.1, by rw [← hlen']; exact hb.2⟩⟩⟩
        · have hjl : j < (n + ys.length) * sz := by
            have := (List.getElem?_eq_some_iff.1 hd).1
            rw [flats_append, List.length_append, hflx, hfly, ← Nat.add_mul] at this; exact this
          exact ((cellsOf j u hjl hu).2 d hd).keep hkeep
        · rw [hlen']
          rcases hb with hb | ⟨_, hb⟩
          · rcases q6 with q6 | q6
            · rcases hob with ⟨h1, _⟩ | ⟨b0, us0, h1, h2, h3, h4, h5, h6⟩
              · rw [q6.1] at h1; cases h1
              · rw [q6.1] at h1; injection h1 with h1; subst h1
                obtain ⟨r1, r2⟩ := (h6 o).1 hb
                refine ⟨r1, ?_⟩
                rw [← hmu r1] at r2
                rw [Nat.add_mul]; omega
            · exact absurd (ha.inv.st b' o hb) (by omega)
          · exact hb⟩
  refine ⟨.slice (ob'.map (⟨·, 0, none⟩)) (n + ys.length) cap', w', ?_, _, hab.put (d := some d) hd ⟨hidn, ?_⟩⟩
  · simp only [execOp, resolve, invoke, builtin, Sem.run_bind, Sem.run_pure, Result.andThen_ok, List.map_toArray, List.map_cons, List.map_nil, hxv, hrun]
  · show _ = Value.slice ((upd g.blk id ob' id).map _) _ (upd g.cap id cap' id)
    simp [upd]

theorem aApp0 {id n m e sz by' : Nat} {mu : Bool} {xs ys : List D} (hx : oval σ x = .buf id n) (ho : η[id]? = some (.buf mu e sz xs)) (hn : n ≤ xs.length) (hmu : mu = false → n = xs.length) (hy : Co η (oval σ y) (.slice ys)) (hm : m = ys.length)
    (he : elemTy C.P t = some e) (hs : elemSize C.P t = some sz) (hz : zeroLen C.P e = some sz) (hb : bytesOf C.P t = some by') (hf : ∀ d ∈ ys, d.flat.length = sz) (hlen : (n + m) * by' ≤ 140737488355328) (hlen2 : n + m ≤ 140737488355328) (hd : Nat.blt d C.N = true) (hro : Nat.ble C.ro id = true)
    (h : alex C false ops rest K ((d, .buf id (n + m)) :: killσ id σ) ((killη id η).set id (.buf mu e sz (xs.take n ++ ys)))) :
    astep C false ops ⟨some d, .call ⟨.builtin .append, #[x, y], #[t, t]⟩, ty, pos, after, gd⟩ rest K σ η := by
  subst hm
  obtain ⟨e', i, hu, hi, hsz⟩ := elemSize_some hs
  have : e' = e := by have := elemTy_some he; rw [hu] at this; injection this with this; injection this
  subst this
  have hby : i.bytes = by' := by
    obtain ⟨e2, i2, h1, h2, h3⟩ := bytesOf_some hb
    rw [hu] at h1; injection h1 with h1; injection h1 with h1; subst h1
    rw [hi] at h2; injection h2 with h2; subst h2; exact h3
  obtain ⟨z, hzz, hzs⟩ := zeroLen_some hi hz
  refine aAppG hx ho hn hmu hf hd hro (fun g a w us ha hcm hus => ?_) h
  have hyr := (hy.rep ha.inv (ha.eval y)).open_slice hf
  obtain ⟨sa, sc, news, hyv, _, _, hnl, hn1, hncell, hnrep⟩ := hyr
  have hnews : 0 < ys.length → ∃ ad, sa = some ad ∧ ∀ (j : Nat) (u : Value), news[j]? = some u → w.cell? (ad.add j) = some u := fun h0 => by
    obtain ⟨ad, h1, h2⟩ := hncell h0
    exact ⟨ad, h1, fun j u hj => (h2 j u hj).2⟩
  have := run_append_sx w t ty e' i z hu hi hzz (by rw [hzs, hsz]) (g.blk id) n (g.cap id) us (by rw [hsz]; exact hus) sa ys.length sc news (by rw [hnl, hsz]) hnews hn1 (by rw [hby]; exact hlen) (by simp only [maxLen]; omega) hcm
  rw [hsz] at this
  exact ⟨news, hnl, hn1, hnrep, by rw [hyv]; exact this⟩

/-- append, the whole row and some more -/
theorem aApp {id n m e sz by' : Nat} {mu : Bool} {xs ys : List D} (hx : oval σ x = .buf id n) (ho : η[id]? = some (.buf mu e sz xs)) (hy : Co η (oval σ y) (.slice ys)) (hn : n = xs.length) (hm : m = ys.length)
    (he : elemTy C.P t = some e) (hs : elemSize C.P t = some sz) (hz : zeroLen C.P e = some sz) (hb : bytesOf C.P t = some by') (hd : Nat.blt d C.N = true) (hro : Nat.ble C.ro id = true) (hf : ∀ d ∈ ys, d.flat.length = sz) (hlen : (n + m) * by' ≤ 140737488355328 ∧ n + m ≤ 140737488355328)
    (h : alex C false ops rest K ((d, .buf id (n + m)) :: killσ id σ) ((killη id η).set id (.buf mu e sz (xs ++ ys)))) :
    astep C false ops ⟨some d, .call ⟨.builtin .append, #[x, y], #[t, t]⟩, ty, pos, after, gd⟩ rest K σ η :=
  aApp0 hx ho (by omega) (fun _ => hn) hy hm he hs hz hb hf hlen.1 hlen.2 hd hro (by rw [hn, List.take_length, ← hn]; exact h)

/-! ### ghosts: a nil slice becomes a row; a row is let be -/
theorem awp_newbuf {Q : Exit → Sl → List Ob → Prop} {c : Code} (t : Nat) (mu : Bool) (e sz : Nat) (ht : get σ t = .nil) (hro : Nat.ble C.ro η.length = true) (h : awp C c Q ((t, .buf η.length 0) :: σ) (η ++ [.buf mu e sz []])) : awp C c Q σ η := by
  intro R hR a w ⟨g, ha⟩
  refine h R hR a w ?_
  have hn := ha.inv.n
  let g' : Gh := { g with blk := upd g.blk g.n none, cap := upd g.cap g.n 0, sz := upd g.sz g.n sz, n := g.n + 1 }
  have hold : ∀ id, id < g.n → g'.blk id = g.blk id ∧ g'.cap id = g.cap id ∧ g'.sz id = g.sz id := fun id hid => by simp [g', upd, Nat.ne_of_lt hid]
  have hab := ha.newOb (g' := g') (w' := w) (.buf mu e sz []) rfl rfl rfl (Nat.le_refl _) (fun _ _ => rfl) rfl hold (fun id hid => by
      have hne : id ≠ g.n := by omega
      simp only [g', upd, if_neg hne]
      exact ha.inv.dead id (by omega)) (fun b hb => by simp [g', upd] at hb) (fun _ _ h => h) (fun _ _ h => .inl h) ha.inv.st (by rw [hn]; exact Nat.le_of_ble_eq_true hro)
    ⟨by simp [g', upd], by simp, by simp [g', upd], by simp, .inl ⟨by simp [g', upd], by simp [g', upd]⟩⟩
  refine ⟨g', { hab with rep := fun u => ?_ }⟩
  rw [get_cons]
  split
  · rename_i e; subst e
    have := ha.rep t; rw [ht] at this
    refine ⟨by show η.length < g.n + 1; omega, ?_⟩
    rw [this, ← hn]; simp [g', upd]
  · exact hab.rep u

/-- what the row holds stays from now on -/
theorem awp_freeze {Q : Exit → Sl → List Ob → Prop} {c : Code} (id : Nat) {mu : Bool} {e sz : Nat} {xs : List D} (ho : η[id]? = some (.buf mu e sz xs)) (hro : Nat.ble C.ro id = true) (h : awp C c Q σ (η.set id (.buf false e sz xs))) : awp C c Q σ η := by
  intro R hR a w ⟨g, ha⟩
  refine h R hR a w ?_
  have hidl : id < η.length := (List.getElem?_eq_some_iff.1 ho).1
  have hro := Nat.le_of_ble_eq_true hro
  obtain ⟨o1, o2, o3, o4, o5⟩ := ha.inv.ob id _ ho
  let g' : Gh := { g with St := fun b o => g.St b o ∨ (g.blk id = some b ∧ o < xs.length * sz) }
  have kp : Keep g.St w g'.St w := ⟨fun _ _ h => .inl h, fun _ _ _ _ h => h, fun _ _ => rfl⟩
  have re : ∀ {v : Value} {s : SV}, RepS g w v s → RepS g' w v s := fun r => r.ext kp (fun _ _ => ⟨rfl, rfl, rfl⟩) (Nat.le_refl _)
  have lt : ∀ b o, g'.St b o → b < w.heap.size := fun b o hb => by
    rcases hb with hb | ⟨hb, _⟩
    · exact ha.inv.st b o hb
    · exact ha.inv.lt id b hb
  refine ⟨g', ha.defers, ha.size, ⟨by rw [List.length_set]; exact ha.inv.n, ha.inv.lt, ha.inv.dead, ha.inv.inj, fun i o hi => ?_, lt, ha.inv.gl.keep kp⟩, ha.os, ha.tape, ha.output, ha.wsize, ha.heap, ha.keep.trans kp, fun b o hb => ?_, ha.own, fun t => re (ha.rep t)⟩
  · rw [List.getElem?_set] at hi
    split at hi
    · rename_i e; subst e
      try rw [if_pos hidl] at hi
      injection hi with hi; subst hi
      refine ⟨o1, o2, o3, o4, ?_⟩
      rcases o5 with o5 | ⟨b, us, h1, h2, h3, h4, h5, h6⟩
      · exact .inl o5
      · refine .inr ⟨b, us, h1, h2, h3, h4, fun j u d hu hd => (h5 j u d hu hd).keep kp, fun o => ⟨fun hb => ?_, fun hb => .inr ⟨h1, hb.2⟩⟩⟩
        rcases hb with hb | ⟨_, hb⟩
        · exact ⟨rfl, ((h6 o).1 hb).2⟩
        · exact ⟨rfl, hb⟩
    · rename_i e
      refine (ha.inv.ob i o hi).ext kp (fun _ _ => ⟨rfl, rfl, rfl⟩) (Nat.le_refl _) (by rw [ha.inv.n]; exact (List.getElem?_eq_some_iff.1 hi).1) (fun b hb => ⟨rfl, fun o => ⟨fun ho => ?_, fun h => .inl h⟩⟩)
      rcases ho with ho | ⟨ho, _⟩
      · exact ho
      · exact absurd (ha.inv.inj i id b hb ho) (fun h => e h.symm)
  · rcases hb with hb | ⟨hb, _⟩
    · exact ha.new b o hb
    · exact (ha.own id b hb hro).elim (fun h => .inr (.inl h)) (fun h => .inr (.inr h))
end

end Go.Sx
/- The engine: make, copy, slices of slices, places in rows; closures that read what they hold. -/
namespace Go.Sx
open Go.RowKit

section
variable {P : Program} {η : List Ob} {σ : Sl} {dst : Option Nat} {ty : TypeId} {pos : String} {after : Array Edge} {gd : Option (Nat × Bool)} {t : TypeId} {x y z : Operand}

theorem flats_drop {sz : Nat} : ∀ {xs : List D} (_ : ∀ x ∈ xs, x.flat.length = sz) (n : Nat), flats (xs.drop n) = (flats xs).drop (n * sz)
  | [], _, n => by simp [flats]
  | x :: r, h, 0 => by simp [flats]
  | x :: r, h, n + 1 => by
    have h1 := h x (by simp)
    have ih := flats_drop (sz := sz) (xs := r) (fun y hy => h y (by simp [hy])) n
    simp only [flats, List.drop_succ_cons, List.flatMap_cons] at ih ⊢
    rw [ih, List.drop_append]
    have e1 : x.flat.drop ((n + 1) * sz) = [] := List.drop_of_length_le (by rw [h1, Nat.add_mul]; omega)
    have e2 : (n + 1) * sz - x.flat.length = n * sz := by rw [h1, Nat.add_mul]; omega
    rw [e1, e2, List.nil_append]

/-- a piece of a slice -/
theorem piece {St : Stab} {w : World} {v : Value} {xs : List D} (h : RepD St w v (.slice xs)) {sz l n : Nat} (hf : ∀ x ∈ xs, x.flat.length = sz) (hl : l ≤ n) (hn : n ≤ xs.length) :
    ∃ (a : Option Addr) (cap : Nat), v = .slice a xs.length cap ∧ xs.length ≤ cap ∧ RepD St w (.slice (if cap = l then a else a.map (·.add (l * sz))) (n - l) (cap - l)) (.slice ((xs.take n).drop l)) := by
  obtain ⟨a, cap, us, rfl, hc, hm, hul, h1, hcell, hr⟩ := h.open_slice hf
  refine ⟨a, cap, rfl, hc, ?_⟩
  have hft : ∀ x ∈ xs.take n, x.flat.length = sz := fun x hx => hf x (List.mem_of_mem_take hx)
  have hlen : ((xs.take n).drop l).length = n - l := by rw [List.length_drop, List.length_take]; omega
  have hmul : n * sz ≤ xs.length * sz := Nat.mul_le_mul_right _ hn
  have hmul2 : l * sz ≤ n * sz := Nat.mul_le_mul_right _ hl
  have e3 : (n - l) * sz = n * sz - l * sz := Nat.sub_mul ..
  refine .slice _ _ _ sz _ ((us.take (n * sz)).drop (l * sz)) hlen.symm (by omega) (by omega) (fun x hx => hft x (List.mem_of_mem_drop hx)) ?_ (fun u hu => h1 u (List.mem_of_mem_take (List.mem_of_mem_drop hu))) (fun h0 => ?_) (fun j u d hu hd => ?_)
  · rw [flats_drop hft, flats_take hf, List.length_drop, List.length_drop, List.length_take, List.length_take, flats_len hf, hul]
  · rw [hlen] at h0
    obtain ⟨ad, rfl, hcc⟩ := hcell (by omega)
    rw [if_neg (by omega)]
    refine ⟨ad.add (l * sz), rfl, fun j u hj => ?_⟩
    rw [list_drop_get, List.getElem?_take] at hj
    split at hj
    · exact (hcc _ _ hj).shift
    · cases hj
  · rw [flats_drop hft, flats_take hf] at hd
    rw [list_drop_get, List.getElem?_take] at hu hd
    split at hu
    · rename_i hlt; rw [if_pos hlt] at hd; exact hr _ _ _ hu hd
    · cases hu

theorem run_sliceAt {t e : TypeId} {i : TypeInfo} (hu : P.underlying t = some (.slice e)) (hi : P.info? e = some i) (a : Option Addr) (len cap l h : Nat) (lo hi' : Option Value) (hlo : (lo = none ∧ l = 0) ∨ ∃ k, lo = some (.int k (l : Int))) (hhi : (hi' = none ∧ h = len) ∨ ∃ k, hi' = some (.int k (h : Int)))
    (h1 : l ≤ h) (h2 : h ≤ cap) (w : World) : (Instr.sliceAt t (.slice a len cap) lo hi' none).run P w = .ok (.slice (if cap = l then a else a.map (·.add (l * i.size))) (h - l) (cap - l)) w := by
  rcases hlo with ⟨rfl, rfl⟩ | ⟨k, rfl⟩ <;> rcases hhi with ⟨rfl, rfl⟩ | ⟨k', rfl⟩ <;>
    simp [Instr.sliceAt, Instr.slice, Instr.sliceBounds, Instr.sliceBound, run_underlying hu, sizeOf, typeInfo, hi, asIntOf, h1, h2, Int.ofNat_le]

variable {α : Type} {enc : α → D} {L : List α}
theorem Y_slice0 {sz l n : Nat} {lo hi : Option Operand} {xs : List D} (hc : Co η (oval σ x) (.slice xs)) (hs : elemSize P t = some sz) (hf : ∀ d ∈ xs, d.flat.length = sz)
    (hlo : (lo = none ∧ l = 0) ∨ ∃ o k, lo = some o ∧ oval σ o = .d (.val (.int k (l : Int)))) (hhi : (hi = none ∧ n = xs.length) ∨ ∃ o k, hi = some o ∧ oval σ o = .d (.val (.int k (n : Int)))) (h1 : l ≤ n) (h2 : n ≤ xs.length) :
    Ylds P η σ ⟨dst, .slice t x lo hi none, ty, pos, after, gd⟩ (.d (.slice ((xs.take n).drop l))) := by
  obtain ⟨e, i, hu, hi', hsz⟩ := elemSize_some hs
  refine Ylds.same fun g w a hi h => ?_
  have hr := hc.rep hi (h x (by simp [Op.operands]))
  obtain ⟨b, cap, hv, hcap, hrep⟩ := piece hr hf h1 h2
  refine ⟨_, ?_, hrep⟩
  simp only [execOp, hv, Sem.run_bind, Sem.run_pure, Option.map_none]
  rw [run_sliceAt hu hi' b xs.length cap l n _ _ ?_ ?_ h1 (by omega), hsz]
  · rfl
  · rcases hlo with ⟨rfl, rfl⟩ | ⟨o, k, rfl, ho⟩
    · exact .inl ⟨rfl, rfl⟩
    · have := h o (by simp [Op.operands]); rw [ho] at this
      exact .inr ⟨k, by simp [RepD.val_eq this]⟩
  · rcases hhi with ⟨rfl, rfl⟩ | ⟨o, k, rfl, ho⟩
    · exact .inl ⟨rfl, rfl⟩
    · have := h o (by simp [Op.operands]); rw [ho] at this
      exact .inr ⟨k, by simp [RepD.val_eq this]⟩

theorem Y_sl {sz : Nat} {l n : Int} {k k' : IntKind} (hc : Co η (oval σ x) (.slice (L.map enc))) (hs : elemSize P t = some sz) (hlo : oval σ y = .d (.val (.int k l))) (hhi : oval σ z = .d (.val (.int k' n))) (hf : ∀ v, (enc v).flat.length = sz)
    (h : 0 ≤ l ∧ l ≤ n ∧ n ≤ (L.length : Int)) : Ylds P η σ ⟨dst, .slice t x (some y) (some z) none, ty, pos, after, gd⟩ (.d (.slice (((L.take n.toNat).drop l.toNat).map enc))) := by
  have := Y_slice0 (dst := dst) (ty := ty) (pos := pos) (after := after) (gd := gd) (l := l.toNat) (n := n.toNat) (lo := some y) (hi := some z) hc hs (fun d hd => by obtain ⟨v, _, rfl⟩ := List.mem_map.1 hd; exact hf v)
    (.inr ⟨y, k, rfl, by rw [hlo, Int.toNat_of_nonneg h.1]⟩) (.inr ⟨z, k', rfl, by rw [hhi, Int.toNat_of_nonneg (by omega)]⟩) (by omega) (by rw [List.length_map]; omega)
  rwa [← List.map_take, ← List.map_drop] at this
theorem Y_sl_l {sz : Nat} {l : Int} {k : IntKind} (hc : Co η (oval σ x) (.slice (L.map enc))) (hs : elemSize P t = some sz) (hlo : oval σ y = .d (.val (.int k l))) (hf : ∀ v, (enc v).flat.length = sz)
    (h : 0 ≤ l ∧ l ≤ (L.length : Int)) : Ylds P η σ ⟨dst, .slice t x (some y) none none, ty, pos, after, gd⟩ (.d (.slice ((L.drop l.toNat).map enc))) := by
  have := Y_slice0 (dst := dst) (ty := ty) (pos := pos) (after := after) (gd := gd) (l := l.toNat) (n := (L.map enc).length) (lo := some y) (hi := none) hc hs (fun d hd => by obtain ⟨v, _, rfl⟩ := List.mem_map.1 hd; exact hf v)
    (.inr ⟨y, k, rfl, by rw [hlo, Int.toNat_of_nonneg h.1]⟩) (.inl ⟨rfl, rfl⟩) (by rw [List.length_map]; omega) (Nat.le_refl _)
  rwa [List.take_length, ← List.map_drop] at this
theorem Y_sl_h {sz : Nat} {n : Int} {k : IntKind} (hc : Co η (oval σ x) (.slice (L.map enc))) (hs : elemSize P t = some sz) (hhi : oval σ z = .d (.val (.int k n))) (hf : ∀ v, (enc v).flat.length = sz)
    (h : 0 ≤ n ∧ n ≤ (L.length : Int)) : Ylds P η σ ⟨dst, .slice t x none (some z) none, ty, pos, after, gd⟩ (.d (.slice ((L.take n.toNat).map enc))) := by
  have := Y_slice0 (dst := dst) (ty := ty) (pos := pos) (after := after) (gd := gd) (l := 0) (n := n.toNat) (lo := none) (hi := some z) hc hs (fun d hd => by obtain ⟨v, _, rfl⟩ := List.mem_map.1 hd; exact hf v)
    (.inl ⟨rfl, rfl⟩) (.inr ⟨z, k, rfl, by rw [hhi, Int.toNat_of_nonneg h.1]⟩) (by omega) (by rw [List.length_map]; omega)
  rwa [List.drop_zero, ← List.map_take] at this

/-- a row that may be written, cut at its end -/
theorem Y_sl_b {id m : Nat} {n : Int} {k : IntKind} (hx : oval σ x = .buf id m) (hs : (elemSize P t).isSome = true) (hhi : oval σ z = .d (.val (.int k n))) (h : 0 ≤ n ∧ n ≤ (m : Int)) (hcap : ∃ mu e sz xs, η[id]? = some (.buf mu e sz xs) ∧ m ≤ xs.length) :
    Ylds P η σ ⟨dst, .slice t x none (some z) none, ty, pos, after, gd⟩ (.buf id n.toNat) := by
  obtain ⟨sz, hs⟩ := Option.isSome_iff_exists.1 hs
  obtain ⟨e, i, hu, hi', hsz⟩ := elemSize_some hs
  obtain ⟨mu, e2, sz2, xs, ho, hm⟩ := hcap
  refine Ylds.same fun g w a hi hop => ?_
  have hr := hop x (by simp [Op.operands]); rw [hx] at hr
  obtain ⟨h1, h2⟩ := hr
  have hz := hop z (by simp [Op.operands]); rw [hhi] at hz
  obtain ⟨_, _, _, hcl, _⟩ := hi.ob id _ ho
  refine ⟨.slice ((g.blk id).map (⟨·, 0, none⟩)) n.toNat (g.cap id), ?_, h1, rfl⟩
  simp only [execOp, h2, Sem.run_bind, Sem.run_pure]
  have := run_sliceAt hu hi' ((g.blk id).map (⟨·, 0, none⟩)) m (g.cap id) 0 n.toNat none (some (a.eval z)) (.inl ⟨rfl, rfl⟩) (.inr ⟨k, by rw [RepD.val_eq hz, Int.toNat_of_nonneg h.1]⟩) (Nat.zero_le _) (by omega) w
  simp only [Option.map_none, Option.map_some, this, Result.andThen_ok, Nat.sub_zero]
  congr 3
  split
  · rfl
  · cases g.blk id <;> simp [Addr.add_lit]

/-! ### places in a row of the call's own -/
theorem Y_index_b {id m sz e : Nat} {mu : Bool} {n : Int} {k : IntKind} {xs : List D} (hx : oval σ x = .buf id m) (hy : oval σ y = .d (.val (.int k n))) (ho : η[id]? = some (.buf mu e sz xs)) (hs : elemSize P t = some sz) (h : 0 ≤ n ∧ n < (m : Int)) (hm : m ≤ xs.length) :
    Ylds P η σ ⟨dst, .indexAddr t x y, ty, pos, after, gd⟩ (.bptr id n.toNat 0) := by
  obtain ⟨e', i, hu, hi', hsz⟩ := elemSize_some hs
  refine Ylds.same fun g w a hi hop => ?_
  have hr := hop x (by simp [Op.operands]); rw [hx] at hr
  obtain ⟨h1, h2⟩ := hr
  have hz := hop y (by simp [Op.operands]); rw [hy] at hz
  obtain ⟨hgs, _, _, hcl, hb⟩ := hi.ob id _ ho
  have hbb : ∃ b, g.blk id = some b := by
    rcases hb with ⟨_, h0⟩ | ⟨b, _, hb, _⟩
    · omega
    · exact ⟨b, hb⟩
  obtain ⟨b, hb⟩ := hbb
  refine ⟨.pointer (some ⟨b, n.toNat * sz, none⟩), ?_, h1, b, hb, by rw [hgs]; rfl⟩
  simp [execOp, h2, RepD.val_eq hz, hb, Instr.indexAt, asIntOf, run_underlying hu, h.1, h.2, sizeOf, typeInfo, hi', hsz, Addr.add_lit]

theorem Y_field_bp {f off id i o : Nat} (hx : oval σ x = .bptr id i o) (hf : fieldOff P t f = some off) : Ylds P η σ ⟨dst, .fieldAddr t x f, ty, pos, after, gd⟩ (.bptr id i (o + off)) := by
  refine Ylds.same fun g w a hi h => ?_
  have h1 := h x (by simp [Op.operands]); rw [hx] at h1
  obtain ⟨hid, b, hb, hv⟩ := h1
  unfold fieldOff at hf
  split at hf
  · rename_i fs hfs
    split at hf
    · rename_i fl hfl
      split at hf
      · rename_i i hi'
        split at hf
        · cases hf
        · rename_i hne
          injection hf with hf
          subst hf
          refine ⟨.pointer (some ⟨b, _, none⟩), ?_, hid, b, hb, rfl⟩
          simp [execOp, hv, Instr.fieldAt, run_underlying hfs, hfl, Instr.sureAddr, fieldPlace, sizeOf, typeInfo, hi', hne, Addr.add_lit, Nat.add_assoc]
      · cases hf
    · cases hf
  · cases hf

theorem Y_load_b {id i o n e sz : Nat} {mu : Bool} {xs : List D} {d c : D} (hx : oval σ x = .bptr id i o) (ht : tyCells P t = some (false, n)) (ho : η[id]? = some (.buf mu e sz xs)) (hd : xs[i]? = some d) (hc : d.flat[o]? = some c) : Ylds P η σ ⟨dst, .load t x, ty, pos, after, gd⟩ (.d c) := by
  refine Ylds.same fun g w a hi h => ?_
  have h1 := h x (by simp [Op.operands]); rw [hx] at h1
  obtain ⟨hid, b, hb, hv⟩ := h1
  obtain ⟨hgs, hf, _, hcl, hbo⟩ := hi.ob id _ ho
  have hil : i < xs.length := (List.getElem?_eq_some_iff.1 hd).1
  have hol : o < sz := by rw [← hf d (List.mem_of_getElem? hd)]; exact (List.getElem?_eq_some_iff.1 hc).1
  have hmul : (i + 1) * sz ≤ xs.length * sz := Nat.mul_le_mul_right _ hil
  rw [Nat.add_mul] at hmul
  rcases hbo with ⟨h0, _⟩ | ⟨b', us, h2, h3, h4, h5, h6, _⟩
  · rw [hb] at h0; cases h0
  · rw [hb] at h2; injection h2 with h2; subst h2
    have hmul2 : xs.length * sz ≤ g.cap id * sz := Nat.mul_le_mul_right _ hcl
    have hlt : i * sz + o < us.size := by omega
    refine ⟨us[i * sz + o], ?_, h6 _ _ _ (Array.getElem?_eq_getElem hlt) ((flats_at hf hd hol).trans hc)⟩
    have hcell : w.cell? ⟨b, i * sz + o, none⟩ = some us[i * sz + o] := by rw [cell_of_row w b _ us e (0, 0) h3]; exact Array.getElem?_eq_getElem hlt
    simp [execOp, hv, hgs, Instr.loadAt, Instr.sureAddr, loadVar, (tyCells_some ht w).1, hcell]

/-! ### closures -/
def ptrIds : List SV → Option (List Nat)
  | [] => some []
  | .ptr i o :: r => match o with
    | 0 => match ptrIds r with
      | some l => some (i :: l)
      | none => none
    | _ + 1 => none
  | _ :: _ => none

theorem ptrIds_rep {g : Gh} {w : World} {f : Operand → Value} : ∀ {xs : List Operand} {ss : List SV} {ids : List Nat}, ss.length = xs.length → (∀ (j : Nat) (x : Operand) (s : SV), xs[j]? = some x → ss[j]? = some s → RepS g w (f x) s) → ptrIds ss = some ids →
    ids.length = xs.length ∧ ∀ (j id : Nat) (x : Operand), ids[j]? = some id → xs[j]? = some x → id < g.n ∧ ∃ b, g.blk id = some b ∧ f x = .pointer (some ⟨b, 0, none⟩)
  | [], [], ids, _, _, h => by simp [ptrIds] at h; subst h; exact ⟨rfl, fun j id x h => by simp at h⟩
  | x :: xs, s :: ss, ids, hl, hr, h => by
    have h0 := hr 0 x s rfl rfl
    cases s with
    | ptr i o =>
      cases o with
      | succ o => simp [ptrIds] at h
      | zero =>
        simp only [ptrIds] at h
        split at h
        · rename_i l hl'
          injection h with h; subst h
          obtain ⟨e1, e2⟩ := ptrIds_rep (g := g) (w := w) (f := f) (by simpa using hl) (fun j x s hx hs => hr (j + 1) x s (by simpa using hx) (by simpa using hs)) hl'
          refine ⟨by simp [e1], fun j id x' hj hx => ?_⟩
          match j with
          | 0 => simp at hj hx; subst hj; subst hx; exact h0
          | j + 1 => exact e2 j id x' (by simpa using hj) (by simpa using hx)
        · cases h
    | _ => simp [ptrIds] at h
  | [], _ :: _, _, hl, _, _ => by simp at hl
  | _ :: _, [], _, hl, _, _ => by simp at hl

theorem Y_mkf {f : FuncId} {xs : List Operand} {ids : List Nat} (h : ptrIds (xs.map (oval σ)) = some ids) : Ylds P η σ ⟨dst, .makeFunc (.func f) #[] xs.toArray, ty, pos, after, gd⟩ (.clo f ids) := by
  refine Ylds.same fun g w a hi hop => ?_
  obtain ⟨e1, e2⟩ := ptrIds_rep (g := g) (w := w) (f := a.eval) (xs := xs) (by simp) (fun j x s hx hs => by
    rw [List.getElem?_map, hx] at hs; simp at hs; subst hs
    exact hop x (by simp [Op.operands, List.mem_of_getElem? hx])) h
  refine ⟨.func (.func f) #[] (xs.map a.eval).toArray, ?_, xs.map a.eval, rfl, by simp [e1], fun j id u hj hu => ?_⟩
  · simp [execOp, Instr.makeFunc]
  · rw [List.getElem?_map] at hu
    cases hx : xs[j]? with
    | none => simp [hx] at hu
    | some x => simp [hx] at hu; subst hu; exact e2 j id x hj hx

/-- blocks that hold just these data, and stay as they are while the call runs -/
def Boxes (St : Stab) (w : World) (bl : List Nat) (bs : List (List D)) : Prop :=
  bl.length = bs.length ∧ bl.Nodup ∧ ∀ (j b : Nat) (cs : List D), bl[j]? = some b → bs[j]? = some cs → ∃ e us, w.heap[b]? = some (.cells us e (0, 0)) ∧ us.size = cs.length ∧ (∀ u ∈ us, u.oneCell' = true) ∧
    (∀ (j : Nat) (u : Value) (d : D), us[j]? = some u → cs[j]? = some d → RepD St w u d) ∧ ∀ o, ¬ St b o

/-- What a call of a closure comes to, that reads variables (which hold bs) and changes nothing. -/
def RCall (P : Program) (f : FuncId) (ds : List D) (bs : List (List D)) (res : D) : Prop :=
  ∀ (St : Stab) (w : World) (vs : List Value) (bl : List Nat), (∀ b o, St b o → b < w.heap.size) → Glob St w → RepDs St w vs ds → Boxes St w bl bs →
    Calls P f (vs ++ bl.map fun b => Value.pointer (some ⟨b, 0, none⟩)).toArray w (fun e w' => ∃ v St', e = .returned v ∧ RepD St' w' v res ∧ Below w.heap.size w w' ∧ Keep St w St' w' ∧
      (∀ b o, St' b o → St b o ∨ w.heap.size ≤ b) ∧ (∀ b o, St' b o → b < w'.heap.size))

/-- the objects hold these data -/
def BoxesAt (η : List Ob) : List Nat → List (List D) → Prop
  | [], [] => True
  | i :: ids, cs :: bs => η[i]? = some (.box (cs.map .d)) ∧ BoxesAt η ids bs
  | _, _ => False

theorem BoxesAt_nil {η : List Ob} : BoxesAt η [] [] := trivial
theorem BoxesAt_cons {η : List Ob} {i : Nat} {ids : List Nat} {cs : List D} {bs : List (List D)} (h : η[i]? = some (.box (cs.map .d))) (r : BoxesAt η ids bs) : BoxesAt η (i :: ids) (cs :: bs) := ⟨h, r⟩

theorem BoxesAt.boxes {g : Gh} {w : World} (hi : Inv g w η) : ∀ {ids : List Nat} {bs : List (List D)}, BoxesAt η ids bs → ids.Nodup → ∃ bl : List Nat, Boxes g.St w bl bs ∧ bl.length = ids.length ∧ ∀ (j i b : Nat), ids[j]? = some i → bl[j]? = some b → g.blk i = some b
  | [], [], _, _ => ⟨[], ⟨rfl, List.nodup_nil, fun j b cs h => by simp at h⟩, rfl, fun j i b h => by simp at h⟩
  | i :: ids, cs :: bs, ⟨h1, h2⟩, hn => by
    obtain ⟨hni, hn'⟩ := List.nodup_cons.1 hn
    obtain ⟨bl, ⟨e1, e2, e3⟩, e4, e5⟩ := BoxesAt.boxes hi h2 hn'
    obtain ⟨b, e, us, o1, o2, o3, o4, o5, o6, _⟩ := hi.ob i _ h1
    refine ⟨b :: bl, ⟨by simp [e1], List.nodup_cons.2 ⟨fun hm => ?_, e2⟩, fun j b' cs' hj hc => ?_⟩, by simp [e4], fun j i' b' hj hb => ?_⟩
    · obtain ⟨j, hj⟩ := List.mem_iff_getElem?.1 hm
      have hjl : j < ids.length := by rw [← e4]; exact (List.getElem?_eq_some_iff.1 hj).1
      have := e5 j ids[j] b (List.getElem?_eq_getElem hjl) hj
      have hii := hi.inj i ids[j] b o1 this
      exact hni (hii ▸ List.getElem_mem hjl)
    · match j with
      | 0 =>
        simp at hj hc; subst hj; subst hc
        exact ⟨e, us, o2, by simpa using o3, o4, fun j u d hu hd => o5 j u (.d d) hu (by rw [List.getElem?_map, hd]; rfl), o6⟩
      | j + 1 => exact e3 j b' cs' (by simpa using hj) (by simpa using hc)
    · match j with
      | 0 => simp at hj hb; subst hj; subst hb; exact o1
      | j + 1 => exact e5 j i' b' (by simpa using hj) (by simpa using hb)
  | [], _ :: _, h, _ => h.elim
  | _ :: _, [], h, _ => h.elim

theorem Y_rcall {f : FuncId} {args : List Operand} {ids : List Nat} {ts : Array TypeId} {ds : List D} {bs : List (List D)} {res : D} (hx : oval σ x = .clo f ids) (hb : hasBody P f = true) (hc : RCall P f ds bs res) (ha : CoL η σ args ds) (hbs : BoxesAt η ids bs) (hnd : ids.Nodup) :
    Ylds P η σ ⟨dst, .call ⟨.value x, args.toArray, ts⟩, ty, pos, after, gd⟩ (.d res) := by
  intro g w a hi hop
  have hr := CoL.rep (a := a) hi args ds (fun y hm => hop y (by simp [Op.operands, Call.operands, hm])) ha
  have hxr := hop x (by simp [Op.operands, Call.operands]); rw [hx] at hxr
  obtain ⟨cv, hv, hl, hcv⟩ := hxr
  obtain ⟨bl, hbx, hbl, hbi⟩ := BoxesAt.boxes hi hbs hnd
  have ecv : cv = bl.map fun b => Value.pointer (some ⟨b, 0, none⟩) := by
    refine List.ext_getElem? fun j => ?_
    rcases Nat.lt_or_ge j ids.length with hj | hj
    · have h1 : cv[j]? = some (cv[j]'(by omega)) := List.getElem?_eq_getElem (by omega)
      have h2 : bl[j]? = some (bl[j]'(by omega)) := List.getElem?_eq_getElem (by omega)
      obtain ⟨_, b, hb1, hb2⟩ := hcv j ids[j] _ (List.getElem?_eq_getElem hj) h1
      have := hbi j ids[j] _ (List.getElem?_eq_getElem hj) h2
      rw [this] at hb1; injection hb1 with hb1
      rw [h1, List.getElem?_map, h2, hb2, hb1]; rfl
    · rw [List.getElem?_eq_none (by omega), List.getElem?_eq_none (by simp; omega)]
  refine .inr ⟨f, ((args.map a.eval) ++ bl.map fun b => Value.pointer (some ⟨b, 0, none⟩)).toArray, ?_, ?_⟩
  · simp only [execOp, resolve, hv, Deferred.ofValue, invoke, Sem.run_bind, Sem.run_pure, Result.andThen_ok, List.map_toArray, Array.empty_append]
    rw [ecv, List.append_toArray]
    exact hasBody_run hb
  · refine (hc g.St w _ bl hi.st hi.gl hr hbx).mono fun e w' ⟨v, St', he, hrep, hbel, hkeep, hnew, hlt⟩ => ?_
    exact ⟨v, { g with St := St' }, he, ⟨rfl, rfl, rfl, rfl, hbel.os, hbel.tape, hbel.output, hbel.size, hbel.block, hkeep.sub, hnew, hlt⟩, hrep⟩

def ptrs0 : Nat → Nat → Nat → Sl
  | 0, _, _ => []
  | n + 1, k, i => (k, .ptr i 0) :: ptrs0 n (k + 1) (i + 1)

theorem ptrs0_rep {g : Gh} {w : World} : ∀ (n k i : Nat) (f : Nat → Value), (∀ j, j < n → i + j < g.n ∧ ∃ b, g.blk (i + j) = some b ∧ f (k + j) = .pointer (some ⟨b, 0, none⟩)) → ∀ t, RepS g w (f t) (get (ptrs0 n k i) t)
  | 0, _, _, _, _, _ => trivial
  | n + 1, k, i, f, h, t => by
    unfold ptrs0
    rw [get_cons]
    split
    · rename_i e; subst e; exact h 0 (by omega)
    · exact ptrs0_rep n (k + 1) (i + 1) f (fun j hj => by have := h (j + 1) (by omega); rw [show i + 1 + j = i + (j + 1) by omega, show k + 1 + j = k + (j + 1) by omega]; exact this) t

theorem get_append (σ τ : Sl) (t : Nat) : get (σ ++ τ) t = (match get σ t with | .top => get τ t | s => s) ∨ get (σ ++ τ) t = .top := by
  induction σ with
  | nil => exact .inl rfl
  | cons p r ih =>
    obtain ⟨k, s⟩ := p
    rw [List.cons_append, get_cons, get_cons]
    split
    · cases s <;> first | exact .inl rfl | exact .inr rfl
    · exact ih

/-- A CLOSURE IS ENTERED. -/
theorem rcall_of {f : FuncId} {fn : Func} {c : Code} {ds : List D} {bs : List (List D)} {res : D} {N : Nat} {rs : Array ResultVar} (hf : P.funcs[f]? = some fn) (hb : fn.body = some c) (hN : fn.ntmps = N) (hrs : fn.results = rs) (hl : Nat.ble (ds.length + bs.length) N = true)
    (h : ∀ (w0 : World) (St0 : Stab), awp ⟨P, N, w0, St0, fun _ => False, bs.length⟩ c (rpost rs res) (args0 ds 0 ++ ptrs0 bs.length ds.length 0) (bs.map fun cs => .box (cs.map .d))) : RCall P f ds bs res := by
  intro St w vs bl hst hgl hrep ⟨b1, b2, b3⟩
  subst hN
  have hl := Nat.le_of_ble_eq_true hl
  have hlen := hrep.len
  refine calls_of_wp hf hb (h w St _ ?_ _ _ ?_)
  · intro e σ' η' a' w' hq ⟨g, ha⟩
    have fin : ResOk rs σ' η' res → a'.defers = [] ∧ ∃ v, (results fn a'.tmps).run P w' = .ok v w' ∧ ∃ v_1 St', Ending.returned v = .returned v_1 ∧ RepD St' w' v_1 res ∧ Below w.heap.size w w' ∧ Keep St w St' w' ∧
      (∀ b o, St' b o → St b o ∨ w.heap.size ≤ b) ∧ (∀ b o, St' b o → b < w'.heap.size) := by
      intro hq
      obtain ⟨v, hr, hd⟩ := hq.run (P := P) hrs ha
      refine ⟨ha.defers, v, hr, v, g.St, rfl, hd, ⟨ha.os, ha.tape, ha.output, ha.wsize, fun k hk => ha.heap k hk (fun h => h)⟩, ha.keep, fun b o hb => ?_, ha.inv.st⟩
      rcases ha.new b o hb with h1 | h1 | h1
      · exact .inl h1
      · exact .inr h1
      · exact h1.elim
    cases e <;> first | exact fin hq | exact hq.elim
  · have hblt : ∀ i b, bl[i]? = some b → b < w.heap.size := fun i b hb => by
      have hil : i < bs.length := by rw [← b1]; exact (List.getElem?_eq_some_iff.1 hb).1
      obtain ⟨e, us, h1, _⟩ := b3 i b bs[i] hb (List.getElem?_eq_getElem hil)
      exact (Array.getElem?_eq_some_iff.1 h1).1
    let g : Gh := ⟨St, fun i => bl[i]?, fun _ => 0, fun _ => 0, bs.length⟩
    have hgt : ∀ j v, (vs ++ bl.map fun b => Value.pointer (some ⟨b, 0, none⟩))[j]? = some v → ((vs ++ bl.map fun b => Value.pointer (some ⟨b, 0, none⟩)).toArray ++ Array.replicate (fn.ntmps - (vs ++ bl.map fun b => Value.pointer (some ⟨b, 0, none⟩)).toArray.size) undef).getD j undef = v := by
      intro j v hj
      rw [Array.getD_eq_getD_getElem?, Array.getElem?_append_left (by simpa using (List.getElem?_eq_some_iff.1 hj).1), List.getElem?_toArray, hj]
      rfl
    refine ⟨g, rfl, ?_, ⟨by simp [g], fun i b hb => hblt i b hb, fun i hi => ?_, fun i j b hi hj => ?_, fun i o ho => ?_, hst, hgl⟩, rfl, rfl, rfl, Nat.le_refl _, fun _ _ _ => rfl, Keep.refl St w, fun _ _ h => .inl h, fun i b hb hr => ?_, fun t => ?_⟩
    · simp [hlen]; omega
    · exact List.getElem?_eq_none (by rw [b1]; exact hi)
    · have h1 := (List.getElem?_eq_some_iff.1 hi); have h2 := (List.getElem?_eq_some_iff.1 hj)
      obtain ⟨q1, e1⟩ := h1; obtain ⟨q2, e2⟩ := h2
      have hp := List.pairwise_iff_getElem.1 b2
      rcases Nat.lt_trichotomy i j with hlt | hlt | hlt
      · exact absurd (e1.trans e2.symm) (hp i j q1 q2 hlt)
      · exact hlt
      · exact absurd (e2.trans e1.symm) (hp j i q2 q1 hlt)
    · rw [List.getElem?_map] at ho
      cases hc : bs[i]? with
      | none => simp [hc] at ho
      | some cs =>
        simp [hc] at ho; subst ho
        have hil : i < bl.length := by rw [b1]; exact (List.getElem?_eq_some_iff.1 hc).1
        obtain ⟨e, us, h1, h2, h3, h4, h5⟩ := b3 i bl[i] cs (List.getElem?_eq_getElem hil) hc
        refine ⟨bl[i], e, us, List.getElem?_eq_getElem hil, h1, by simpa using h2, h3, fun j u s hu hs => ?_, h5, ⟨fun _ h => (by cases h), fun _ h => (by cases h)⟩⟩
        rw [List.getElem?_map] at hs
        cases hd : cs[j]? with
        | none => simp [hd] at hs
        | some d => simp [hd] at hs; subst hs; exact h4 j u d hu hd
    · exfalso
      have h1 : i < bl.length := (List.getElem?_eq_some_iff.1 hb).1
      have h2 : bs.length ≤ i := hr
      omega
    · have hd := args0_rep (g := g) (w := w) vs ds 0 (fun j => ((vs ++ bl.map fun b => Value.pointer (some ⟨b, 0, none⟩)).toArray ++ Array.replicate (fn.ntmps - (vs ++ bl.map fun b => Value.pointer (some ⟨b, 0, none⟩)).toArray.size) undef).getD j undef) hrep (fun j v hj => by
        rw [Nat.zero_add]
        exact hgt j v (by rw [List.getElem?_append_left (List.getElem?_eq_some_iff.1 hj).1]; exact hj)) t
      have hp := ptrs0_rep (g := g) (w := w) bs.length ds.length 0 (fun j => ((vs ++ bl.map fun b => Value.pointer (some ⟨b, 0, none⟩)).toArray ++ Array.replicate (fn.ntmps - (vs ++ bl.map fun b => Value.pointer (some ⟨b, 0, none⟩)).toArray.size) undef).getD j undef) (fun j hj => by
        have hjl : j < bl.length := by omega
        refine ⟨by simpa [g] using hj, bl[j], by simp [g, hjl], hgt _ _ ?_⟩
        rw [List.getElem?_append_right (by omega), show ds.length + j - vs.length = j by omega, List.getElem?_map, List.getElem?_eq_getElem hjl]; rfl) t
      rcases get_append (args0 ds 0) (ptrs0 bs.length ds.length 0) t with h1 | h1
      · rw [h1]
        split
        · exact hp
        · exact hd
      · rw [h1]; trivial
end

end Go.Sx
/- The engine: make, copy, a store into a row. -/
namespace Go.Sx
open Go.RowKit

/-- the zero value, as a datum -/
def zdv : Value → D
  | .slice none 0 0 => .slice []
  | v => .val v
def zeroD (P : Program) (e : TypeId) : Option D :=
  match zeroOf P e, tyCells P e with
  | some zs, some (true, _) => some (.agg (zs.map zdv))
  | some [z], some (false, _) => some (zdv z)
  | _, _ => none

theorem zdv_rep (St : Stab) (w : World) (v : Value) : RepD St w v (zdv v) := by
  unfold zdv
  split
  · exact .slice none 0 0 0 [] [] rfl (Nat.le_refl _) (Nat.zero_le _) (by simp) rfl (by simp) (by simp) (by simp)
  · exact .val _
theorem zdv_flat (v : Value) : (zdv v).flat = [zdv v] := by
  unfold zdv
  split <;> rfl

theorem zeroD_some {P : Program} {e : TypeId} {i : TypeInfo} {zd : D} (hi : P.info? e = some i) (h : zeroD P e = some zd) : ∃ z, i.zero = some z ∧ z.cells.size = zd.flat.length ∧ (∀ u ∈ z.cells, u.oneCell' = true) ∧
    ∀ (St : Stab) (w : World) (j : Nat) (u : Value) (d : D), z.cells[j]? = some u → zd.flat[j]? = some d → RepD St w u d := by
  have hz : ∀ zs, zeroOf P e = some zs → ∃ z, i.zero = some z ∧ z.cells.toList = zs ∧ ∀ u ∈ z.cells, u.oneCell' = true := by
    intro zs hz
    unfold zeroOf at hz
    rw [hi] at hz
    cases hq : i.zero with
    | none => simp [hq] at hz
    | some z =>
      simp only [hq] at hz
      split at hz
      · rename_i hall; injection hz with hz; exact ⟨z, rfl, hz, Array.all_eq_true_iff_forall_mem.1 hall⟩
      · cases hz
  unfold zeroD at h
  split at h
  · rename_i zs n h1 h2
    injection h with h; subst h
    obtain ⟨z, e1, e2, e3⟩ := hz zs h1
    refine ⟨z, e1, by rw [← Array.length_toList, e2]; simp [D.flat], e3, fun St w j u d hu hd => ?_⟩
    rw [← Array.getElem?_toList, e2] at hu
    simp only [D.flat, List.getElem?_map, hu] at hd
    simp at hd; subst hd; exact zdv_rep St w u
  · rename_i z0 n h1 h2
    injection h with h; subst h
    obtain ⟨z, e1, e2, e3⟩ := hz [z0] h1
    refine ⟨z, e1, by rw [← Array.length_toList, e2, zdv_flat]; simp, e3, fun St w j u d hu hd => ?_⟩
    rw [← Array.getElem?_toList, e2] at hu
    rw [zdv_flat] at hd
    match j with
    | 0 => simp at hu hd; subst hu; subst hd; exact zdv_rep St w _
    | j + 1 => simp at hu
  · cases h

section
variable {C : Ctx} {ops : Array Oper} {rest : List Oper} {K : Sl → List Ob → Prop} {σ : Sl} {η : List Ob} {d : Nat} {ty : TypeId} {pos : String} {after : Array Edge} {gd : Option (Nat × Bool)} {t : TypeId} {x y : Operand}

theorem flats_rep (n : Nat) (zd : D) (j : Nat) (hp : 0 < zd.flat.length) (hj : j < n * zd.flat.length) : (flats (List.replicate n zd))[j]? = zd.flat[j % zd.flat.length]? := by
  have hd : j / zd.flat.length < n := by rwa [Nat.div_lt_iff_lt_mul hp]
  have := flats_at (sz := zd.flat.length) (xs := List.replicate n zd) (fun x hx => by rw [List.eq_of_mem_replicate hx]) (i := j / zd.flat.length) (d := zd) (by simp [hd]) (j := j % zd.flat.length) (Nat.mod_lt _ hp)
  rw [← this]
  congr 1
  rw [Nat.mul_comm]; exact (Nat.div_add_mod _ _).symm

/-- make([]T, n) -/
theorem aMake {e sz by' : Nat} {zd : D} {n : Int} {k k' : IntKind} (hx : oval σ x = .d (.val (.int k n))) (hy : oval σ y = .d (.val (.int k' n))) (he : elemTy C.P t = some e) (hs : elemSize C.P t = some sz) (hz : zeroD C.P e = some zd) (hzl : zd.flat.length = sz) (hp : Nat.blt 0 sz = true) (hb : bytesOf C.P t = some by')
    (hd : Nat.blt d C.N = true) (hro : Nat.ble C.ro η.length = true) (hn : 0 ≤ n ∧ n * by' ≤ 281474976710656 ∧ n ≤ 281474976710656)
    (h : alex C false ops rest K ((d, .buf η.length n.toNat) :: σ) (η ++ [.buf true e sz (List.replicate n.toNat zd)])) :
    astep C false ops ⟨some d, .makeSlice t x y, ty, pos, after, gd⟩ rest K σ η := by
  have hp : 0 < sz := by simpa using hp
  refine estep (fun g a w ha => ?_) h
  obtain ⟨e', i, hu, hi, hsz⟩ := elemSize_some hs
  have : e' = e := by have := elemTy_some he; rw [hu] at this; injection this with this; injection this
  subst this
  have hby : i.bytes = by' := by
    obtain ⟨e2, i2, h1, h2, h3⟩ := bytesOf_some hb
    rw [hu] at h1; injection h1 with h1; injection h1 with h1; subst h1
    rw [hi] at h2; injection h2 with h2; subst h2; exact h3
  obtain ⟨z, hzz, hzs, hz1, hzr⟩ := zeroD_some hi hz
  have hxr := ha.eval x; rw [hx] at hxr
  have hyr := ha.eval y; rw [hy] at hyr
  have hrun := run_make (P := C.P) w t e' i z hu hi hzz k k' n n hn.1 (Int.le_refl _) (by rw [hby, Int.mul_comm]; exact hn.2.1) (by omega)
  have hg0 : ∀ (j : Nat) (u : Value), (madeCells z.cells (n.toNat * i.size))[j]? = some u → j < n.toNat * sz ∧ z.cells[j % sz]? = some u := by
    intro j u hu
    unfold madeCells at hu
    rw [hsz] at hu
    obtain ⟨hj, hu⟩ := Array.getElem?_eq_some_iff.1 hu
    simp at hj
    simp only [Array.getElem_map, Array.getElem_range] at hu
    have hm : j % sz < z.cells.size := by rw [hzs, hzl]; exact Nat.mod_lt _ hp
    refine ⟨hj, ?_⟩
    rw [hzs, hzl] at hu
    rw [getElem!_pos z.cells (j % sz) hm] at hu
    rw [Array.getElem?_eq_getElem hm, hu]
  have hbuf := ha.newBuf (w' := w.alloc (.cells (madeCells z.cells (n.toNat * i.size)) e')) true e' sz n.toNat (madeCells z.cells (n.toNat * i.size)) (List.replicate n.toNat zd) rfl rfl rfl (by simp) (fun k hk => Below.heap_alloc w _ k hk) (_root_.Go.heap_alloc_new w _) (Nat.le_of_ble_eq_true hro)
    (fun x hx => by rw [List.eq_of_mem_replicate hx]; exact hzl) (by simp) (by simp only [maxLen]; omega) (by rw [size_madeCells, hsz])
    (fun j u _ hu => hz1 u (Array.mem_of_getElem? (hg0 j u hu).2))
    (fun j u d' hu hd' => by
      obtain ⟨h1, h2⟩ := hg0 j u hu
      rw [flats_rep n.toNat zd j (by rw [hzl]; exact hp) (by rw [hzl]; exact h1), hzl] at hd'
      exact hzr g.St w _ u d' h2 hd')
  refine ⟨_, _, by simp only [execOp, Sem.run_bind, RepD.val_eq hxr, RepD.val_eq hyr, hrun]; rfl, _, hbuf.put (d := some d) hd ?_⟩
  refine ⟨?_, ?_⟩
  · show η.length < g.n + 1; have := ha.inv.n; omega
  · have hn' := ha.inv.n
    show _ = Value.slice ((upd g.blk g.n (some w.heap.size) η.length).map _) _ (upd g.cap g.n n.toNat η.length)
    rw [← hn']; simp [upd]

/-- a row that may be written, written: St as it was -/
theorem AbsG.writeBuf {g : Gh} {a : Act} {w : World} (ha : AbsG C g σ η a w) {id e sz b : Nat} {xs xs' : List D} {us us' : Array Value} (ho : η[id]? = some (.buf true e sz xs)) (hro : C.ro ≤ id) (hb : g.blk id = some b) (hh : w.heap[b]? = some (.cells us e (0, 0)))
    (hst : ∀ o, ¬ g.St b o) (hf : ∀ x ∈ xs', x.flat.length = sz) (hl : xs'.length ≤ g.cap id) (hs : us'.size = us.size) (hus : us.size = g.cap id * sz)
    (h1 : ∀ (j : Nat) (u : Value), j < xs'.length * sz → us'[j]? = some u → u.oneCell' = true) (hr : ∀ (j : Nat) (u : Value) (d : D), us'[j]? = some u → (flats xs')[j]? = some d → RepD g.St w u d) :
    AbsG C g σ (η.set id (.buf true e sz xs')) a (w.setRow b us') := by
  have hoth : ∀ k, k ≠ b → (w.setRow b us').heap[k]? = w.heap[k]? := fun k hk => setRow_other w b k us' hk
  have kp : Keep g.St w g.St (w.setRow b us') := ⟨fun _ _ h => h, fun c o u hc hu => (World.cell?_of_block (a := ⟨c, o, none⟩) (hoth c (fun e => hst o (e ▸ hc)))).trans hu, fun c hc => hoth c (fun e => hst 0 (e ▸ hc 0))⟩
  have rk : ∀ {v : Value} {s : SV}, RepS g w v s → RepS g (w.setRow b us') v s := fun r => r.ext kp (fun _ _ => ⟨rfl, rfl, rfl⟩) (Nat.le_refl _)
  have hidl : id < η.length := (List.getElem?_eq_some_iff.1 ho).1
  obtain ⟨o1, o2, o3, o4, o5⟩ := ha.inv.ob id _ ho
  refine ⟨ha.defers, ha.size, ⟨by rw [List.length_set]; exact ha.inv.n, fun i c hc => by rw [setRow_size]; exact ha.inv.lt i c hc, ha.inv.dead, ha.inv.inj, fun i o hi => ?_, fun c o hc => by rw [setRow_size]; exact ha.inv.st c o hc, ha.inv.gl.keep kp⟩, ha.os, ha.tape, ha.output, by rw [setRow_size]; exact ha.wsize,
    fun k hk hx => ?_, ha.keep.trans kp, ha.new, ha.own, fun t => rk (ha.rep t)⟩
  · rw [List.getElem?_set] at hi
    split at hi
    · rename_i hc; subst hc
      try rw [if_pos hidl] at hi
      injection hi with hi; subst hi
      exact ⟨o1, hf, o3, hl, .inr ⟨b, us', hb, setRow_heap w b us us' e (0, 0) hh, by rw [hs, hus], h1, fun j u d hu hd => (hr j u d hu hd).keep kp, fun o => ⟨fun h => absurd h (hst o), fun h => by cases h.1⟩⟩⟩
    · rename_i hc
      refine (ha.inv.ob i o hi).ext kp (fun _ _ => ⟨rfl, rfl, rfl⟩) (Nat.le_refl _) (by rw [ha.inv.n]; exact (List.getElem?_eq_some_iff.1 hi).1) (fun c hcb => ⟨hoth c (fun e => ?_), fun _ => Iff.rfl⟩)
      subst e
      exact hc (ha.inv.inj id i c hb hcb)
  · rw [hoth k (fun e => ?_)]
    · exact ha.heap k hk hx
    · subst e
      rcases ha.own id k hb hro with h2 | h2
      · omega
      · exact hx h2

/-- copy into a row that may be written -/
theorem aCopy {id n e sz : Nat} {xs ys : List D} {t2 : TypeId} (hx : oval σ x = .buf id n) (ho : η[id]? = some (.buf true e sz xs)) (hn : n = xs.length) (hy : Co η (oval σ y) (.slice ys)) (hs : elemSize C.P t = some sz) (hf : ∀ d ∈ ys, d.flat.length = sz) (hro : Nat.ble C.ro id = true) {dst : Option Nat} (hd : DstOk C.N dst)
    (h : alex C false ops rest K (put σ dst (.d (.val (.int .i64 (min ys.length xs.length : Nat))))) (η.set id (.buf true e sz (ys.take xs.length ++ xs.drop ys.length)))) :
    astep C false ops ⟨dst, .call ⟨.builtin .copy, #[x, y], #[t, t2]⟩, ty, pos, after, gd⟩ rest K σ η := by
  subst hn
  refine estep (fun g a w ha => ?_) h
  obtain ⟨e', i, hu, hi, hsz⟩ := elemSize_some hs
  have hro := Nat.le_of_ble_eq_true hro
  have hxr := ha.eval x; rw [hx] at hxr
  obtain ⟨hidn, hxv⟩ := hxr
  obtain ⟨sa, sc, news, hyv, _, _, hnl, hn1, hncell, hnrep⟩ := (hy.rep ha.inv (ha.eval y)).open_slice hf
  obtain ⟨o1, o2, o3, o4, o5⟩ := ha.inv.ob id _ ho
  let m := min ys.length xs.length
  have hml : m * sz ≤ ys.length * sz := Nat.mul_le_mul_right _ (Nat.min_le_left _ _)
  have hmx : m * sz ≤ xs.length * sz := Nat.mul_le_mul_right _ (Nat.min_le_right _ _)
  have hfl : (flats xs).length = xs.length * sz := flats_len o2
  have hres : ys.take xs.length ++ xs.drop ys.length = ys.take m ++ xs.drop m := by
    rcases Nat.le_total ys.length xs.length with hle | hle
    · have e1 : m = ys.length := Nat.min_eq_left hle
      rw [e1, List.take_of_length_le hle, List.take_length]
    · have e1 : m = xs.length := Nat.min_eq_right hle
      rw [e1, List.drop_of_length_le hle, List.drop_of_length_le (Nat.le_refl _)]
  have hfirst : (Builtin.firstCells i.size m (.slice sa ys.length sc)).run C.P w = .ok (news.take (m * sz)).toArray w := by
    by_cases h0 : 0 < ys.length
    · obtain ⟨ad, rfl, hcc⟩ := hncell h0
      refine run_firstCells_some (P := C.P) w i.size m ad ys.length sc (news.take (m * sz)) (by rw [List.length_take, hnl, hsz]; omega) (fun j v hj => ?_)
      rw [List.getElem?_take] at hj
      split at hj
      · exact (hcc j v hj).2
      · cases hj
    · have hm0 : m = 0 := by show min _ _ = 0; omega
      rw [hm0]
      cases sa <;> simp [Builtin.firstCells, loadCells, loadCellsFrom]
  have hlx : (ys.take m ++ xs.drop m).length = xs.length := by
    have hm1 : m ≤ ys.length := Nat.min_le_left _ _
    have hm2 : m ≤ xs.length := Nat.min_le_right _ _
    rw [List.length_append, List.length_take, List.length_drop]; omega
  have hff : ∀ d ∈ ys.take m ++ xs.drop m, d.flat.length = sz := fun d hd => by
    rcases List.mem_append.1 hd with hd | hd
    · exact hf d (List.mem_of_mem_take hd)
    · exact o2 d (List.mem_of_mem_drop hd)
  have hkey : ∃ w', (Builtin.copy_ #[t, t2] ty #[a.eval x, a.eval y]).run C.P w = .ok (goInt (m : Nat)) w' ∧ AbsG C g σ (η.set id (.buf true e sz (ys.take m ++ xs.drop m))) a w' := by
    rcases o5 with ⟨h1, h2⟩ | ⟨b, us, h1, h2, h3, h4, h5, h6⟩
    · have hx0 : xs = [] := List.eq_nil_of_length_eq_zero (by omega)
      subst hx0
      have hm0 : m = 0 := by show min _ _ = 0; simp
      refine ⟨w, ?_, ?_⟩
      · rw [hxv, hyv, h1]
        rw [hm0] at hfirst
        simp [Builtin.copy_, run_underlying hu, Builtin.lenOf, sizeOf, typeInfo, hi, hfirst, hm0]
      · rw [hm0]
        have : η.set id (.buf true e sz ([].take 0 ++ [].drop 0)) = η := by
          refine List.ext_getElem? fun j => ?_
          rw [List.getElem?_set]
          split
          · rename_i hj; subst hj; rw [if_pos (List.getElem?_eq_some_iff.1 ho).1, ho]; rfl
          · rfl
        simp only [List.take_zero, List.drop_nil, List.append_nil] at this ⊢
        rw [this]; exact ha
    · have hxu : xs.length * sz ≤ us.size := by rw [h3]; exact Nat.mul_le_mul_right _ o4
      have hln : (news.take (m * sz)).length = m * sz := by rw [List.length_take]; omega
      have hst := run_storeCells_at C.P b 0 e (news.take (m * sz)) 0 us w h2 (by omega) (fun v hv => hn1 v (List.mem_of_mem_take hv))
      simp only [Nat.add_zero, List.take_zero, List.nil_append, Nat.zero_add, hln] at hst
      refine ⟨_, ?_, ha.writeBuf (us' := (news.take (m * sz) ++ us.toList.drop (m * sz)).toArray) ho hro h1 h2 (fun o hc => by have := (h6 o).1 hc; cases this.1) hff (by rw [hlx]; exact o4) (by simp [hln]; omega) h3 (fun j u hj hu' => ?_) (fun j u d' hu' hd' => ?_)⟩
      · rw [hxv, hyv, h1]
        simp [Builtin.copy_, run_underlying hu, Builtin.lenOf, sizeOf, typeInfo, hi, hfirst, hst, m]
      · rw [List.getElem?_toArray] at hu'
        rcases Nat.lt_or_ge j (m * sz) with hj2 | hj2
        · rw [List.getElem?_append_left (by omega)] at hu'
          exact hn1 u (List.mem_of_mem_take (List.mem_of_getElem? hu'))
        · rw [List.getElem?_append_right (by omega), hln, List.getElem?_drop, Array.getElem?_toList] at hu'
          rw [hlx] at hj
          exact h4 _ u (by omega) hu'
      · rw [List.getElem?_toArray] at hu'
        rw [flats_append, flats_take hf, flats_drop o2] at hd'
        have hly : ((flats ys).take (m * sz)).length = m * sz := by rw [List.length_take, flats_len hf]; omega
        rcases Nat.lt_or_ge j (m * sz) with hj2 | hj2
        · rw [List.getElem?_append_left (by omega), List.getElem?_take, if_pos hj2] at hu' hd'
          exact hnrep j u d' hu' hd'
        · rw [List.getElem?_append_right (by omega), List.getElem?_drop] at hu' hd'
          rw [hln, Array.getElem?_toList] at hu'
          rw [hly] at hd'
          exact h5 _ u d' hu' hd'
  obtain ⟨w', hrun, hab⟩ := hkey
  rw [← hres] at hab
  refine ⟨.int .i64 (m : Nat), w', ?_, g, hab.put (d := dst) hd (.val _)⟩
  simp only [execOp, resolve, invoke, builtin, Sem.run_bind, Sem.run_pure, Result.andThen_ok, List.map_toArray, List.map_cons, List.map_nil, hrun]
  rfl

/-- one element, of one cell, of a row that may be written -/
theorem aStoreB {id i n e : Nat} {xs : List D} {c : D} (hx : oval σ x = .bptr id i 0) (hy : oval σ y = .d c) (hc : one (.d c) = true) (ht : tyCells C.P t = some (false, n)) (hn : Nat.beq n 1 = true) (ho : η[id]? = some (.buf true e 1 xs)) (hi : i < xs.length) (hro : Nat.ble C.ro id = true)
    (h : alex C false ops rest K σ (η.set id (.buf true e 1 (xs.set i c)))) : astep C false ops ⟨none, .store t x y, ty, pos, after, gd⟩ rest K σ η := by
  have hn := Nat.eq_of_beq_eq_true hn
  subst hn
  refine estep0 (fun g a w ha => ?_) h
  have hp := ha.eval x; rw [hx] at hp
  have hr := ha.eval y; rw [hy] at hr
  obtain ⟨hid, b, hb, hpv⟩ := hp
  obtain ⟨o1, o2, o3, o4, o5⟩ := ha.inv.ob id _ ho
  rcases o5 with ⟨h1, _⟩ | ⟨b', us, h1, h2, h3, h4, h5, h6⟩
  · rw [h1] at hb; cases hb
  · rw [hb] at h1; injection h1 with h1; subst h1
    obtain ⟨c1, c2⟩ := RepS.one (g := g) (w := w) (s := .d c) hr hc
    have hst := run_storeCells_at C.P b i e [a.eval y] 0 us w h2 (by simp; omega) (fun v hv => by simp at hv; subst hv; exact c2)
    simp only [Nat.add_zero, List.length_singleton] at hst
    have hcf : c.flat = [c] := by
      cases c with
      | agg cs => cases hc
      | _ => rfl
    have hfx : ∀ (l : List D), (∀ x ∈ l, x.flat.length = 1) → ∀ (j : Nat), (flats l)[j]? = (l[j]?).bind (fun (d : D) => d.flat[0]?) := by
      intro l hl j
      rcases Nat.lt_or_ge j l.length with hj | hj
      · have := flats_at (sz := 1) hl (List.getElem?_eq_getElem hj) (j := 0) (by omega)
        rw [Nat.mul_one, Nat.add_zero] at this
        rw [this, List.getElem?_eq_getElem hj]; rfl
      · rw [List.getElem?_eq_none hj, List.getElem?_eq_none (by rw [flats_len hl]; omega)]; rfl
    have hset : ∀ x ∈ xs.set i c, x.flat.length = 1 := fun x hx => by
      rcases List.mem_or_eq_of_mem_set hx with h | h
      · exact o2 x h
      · rw [h, hcf]; rfl
    refine ⟨_, ?_, g, ha.writeBuf (us' := (us.toList.take i ++ [a.eval y] ++ us.toList.drop (i + 1)).toArray) ho (Nat.le_of_ble_eq_true hro) hb h2 (fun o hc => by have := (h6 o).1 hc; cases this.1) hset (by rw [List.length_set]; exact o4) (by simp; omega) h3 (fun j u hj hu => ?_) (fun j u d' hu hd' => ?_)⟩
    · rw [o1, Nat.mul_one, Nat.add_zero] at hpv
      simp only [execOp, hpv, Instr.storeAt, Instr.sureAddr, storeVar, Sem.run_bind, Sem.run_pure, Result.andThen_ok, (tyCells_some ht w).2, c1, ne_eq]
      simp [hst]
    · rw [List.getElem?_toArray] at hu
      have hm := List.mem_of_getElem? hu
      rcases Nat.lt_trichotomy j i with hji | hji | hji
      · rw [List.append_assoc, List.getElem?_append_left (by simp; omega), List.getElem?_take, if_pos hji, Array.getElem?_toList] at hu
        rw [List.length_set] at hj
        exact h4 j u hj hu
      · subst hji
        rw [List.append_assoc, List.getElem?_append_right (by simp; omega)] at hu
        have e1 : (us.toList.take j).length = j := by rw [List.length_take, Array.length_toList]; omega
        rw [e1, Nat.sub_self] at hu
        simp at hu; subst hu; exact c2
      · rw [List.append_assoc, List.getElem?_append_right (by simp; omega)] at hu
        have e1 : (us.toList.take i).length = i := by rw [List.length_take, Array.length_toList]; omega
        rw [e1, List.getElem?_append_right (by simp; omega), List.length_singleton, List.getElem?_drop, Array.getElem?_toList] at hu
        rw [List.length_set] at hj
        exact h4 _ u (by omega) hu
    · rw [List.getElem?_toArray] at hu
      rw [hfx _ hset, List.getElem?_set] at hd'
      rcases Nat.lt_trichotomy j i with hji | hji | hji
      · rw [List.append_assoc, List.getElem?_append_left (by simp; omega), List.getElem?_take, if_pos hji, Array.getElem?_toList] at hu
        rw [if_neg (by omega), ← hfx _ o2] at hd'
        exact h5 j u d' hu hd'
      · subst hji
        rw [List.append_assoc, List.getElem?_append_right (by simp; omega)] at hu
        have e1 : (us.toList.take j).length = j := by rw [List.length_take, Array.length_toList]; omega
        rw [e1, Nat.sub_self] at hu
        simp at hu; subst hu
        rw [if_pos rfl, if_pos hi, Option.bind_some, hcf] at hd'
        simp at hd'; subst hd'; exact hr
      · rw [List.append_assoc, List.getElem?_append_right (by simp; omega)] at hu
        have e1 : (us.toList.take i).length = i := by rw [List.length_take, Array.length_toList]; omega
        rw [e1, List.getElem?_append_right (by simp; omega), List.length_singleton, List.getElem?_drop, Array.getElem?_toList] at hu
        rw [if_neg (by omega), ← hfx _ o2] at hd'
        have e2 : i + 1 + (j - i - 1) = j := by omega
        rw [e2] at hu
        exact h5 j u d' hu hd'
end

end Go.Sx
/- The engine: loops, jumps back: what is kept from round to round; objects that nobody names any more are let go. -/
namespace Go.Sx
open Go.RowKit

def SV.bel (m : Nat) : SV → Bool
  | .ptr i _ => Nat.blt i m
  | .bptr i _ _ => Nat.blt i m
  | .buf i _ => Nat.blt i m
  | .clo _ ids => ids.all fun i => Nat.blt i m
  | .mp i => Nat.blt i m
  | .pair a b => a.bel m && b.bel m
  | _ => true
def Ob.below (m : Nat) : Ob → Bool
  | .bx _ _ cs => cs.all (SV.bel m)
  | .miter i _ _ _ => Nat.blt i m
  | _ => true
def belowσ (m : Nat) : Sl → Bool
  | [] => true
  | (_, s) :: r => s.bel m && belowσ m r

theorem below_get {m : Nat} : ∀ {σ : Sl}, belowσ m σ = true → ∀ t, (get σ t).bel m = true
  | [], _, _ => rfl
  | (k, s) :: r, h, t => by
    simp only [belowσ, Bool.and_eq_true] at h
    rw [get_cons]; split
    · exact h.1
    · exact below_get h.2 t

def cut (g : Gh) (m : Nat) : Gh := { g with blk := fun i => if i < m then g.blk i else none, n := m }

theorem RepS.cut {g : Gh} {w : World} {v : Value} {s : SV} {m : Nat} (_hm : m ≤ g.n) (hs : s.bel m = true) (r : RepS g w v s) : RepS (cut g m) w v s := by
  have bl : ∀ {i : Nat}, Nat.blt i m = true → i < m := fun h => by simpa using h
  induction s generalizing v with
  | d d => exact r
  | nil => exact r
  | ptr i off => obtain ⟨h1, b, h2, h3⟩ := r; exact ⟨bl hs, b, by simp only [Sx.cut]; rw [if_pos (bl hs)]; exact h2, h3⟩
  | rptr cs => exact r
  | bptr i j off => obtain ⟨h1, b, h2, h3⟩ := r; exact ⟨bl hs, b, by simp only [Sx.cut]; rw [if_pos (bl hs)]; exact h2, h3⟩
  | buf i n => obtain ⟨h1, h2⟩ := r; exact ⟨bl hs, by simp only [Sx.cut]; rw [if_pos (bl hs)]; exact h2⟩
  | clo f ids =>
    obtain ⟨vs, h1, h2, h3⟩ := r
    refine ⟨vs, h1, h2, fun j i u hj hu => ?_⟩
    have hi := bl (List.all_eq_true.1 hs i (List.mem_of_getElem? hj))
    obtain ⟨h4, b, h5, h6⟩ := h3 j i u hj hu
    exact ⟨hi, b, by simp only [Sx.cut]; rw [if_pos hi]; exact h5, h6⟩
  | mp i => obtain ⟨h1, b, h2, h3⟩ := r; exact ⟨bl hs, b, by simp only [Sx.cut]; rw [if_pos (bl hs)]; exact h2, h3⟩
  | pair a b ha hb =>
    simp only [SV.bel, Bool.and_eq_true] at hs
    obtain ⟨u1, u2, h1, h2, h3⟩ := r; exact ⟨u1, u2, h1, ha hs.1 h2, hb hs.2 h3⟩
  | p φ => exact r
  | top => trivial

theorem AbsG.cut {C : Ctx} {g : Gh} {σ : Sl} {η h : List Ob} {a : Act} {w : World} (ha : AbsG C g σ η a w) (hp : ∃ r, η = h ++ r) (hσ : belowσ h.length σ = true) (hη : h.all (Ob.below h.length) = true) : AbsG C (cut g h.length) σ h a w := by
  obtain ⟨r, rfl⟩ := hp
  have hn := ha.inv.n
  have hm : h.length ≤ g.n := by rw [hn]; simp
  have hb : ∀ i b, (Sx.cut g h.length).blk i = some b → i < h.length ∧ g.blk i = some b := by
    intro i b hb
    simp only [Sx.cut] at hb
    split at hb
    · rename_i hc; exact ⟨hc, hb⟩
    · cases hb
  refine ⟨ha.defers, ha.size, ⟨rfl, fun i b hi => ha.inv.lt i b (hb i b hi).2, fun i hi => ?_, fun i j b hi hj => ha.inv.inj i j b (hb i b hi).2 (hb j b hj).2, fun i o ho => ?_, ha.inv.st, ha.inv.gl⟩, ha.os, ha.tape, ha.output, ha.wsize, ha.heap, ha.keep, ha.new, fun i b hi hr => ha.own i b (hb i b hi).2 hr, fun t => (ha.rep t).cut hm (below_get hσ t)⟩
  · have : ¬ i < h.length := by have h0 : h.length ≤ i := hi; omega
    simp only [Sx.cut]; rw [if_neg this]
  · have hil : i < h.length := (List.getElem?_eq_some_iff.1 ho).1
    have hoo := ha.inv.ob i o (by rw [List.getElem?_append_left hil]; exact ho)
    have hbo := List.all_eq_true.1 hη o (List.mem_of_getElem? ho)
    have hblk : (Sx.cut g h.length).blk i = g.blk i := by simp only [Sx.cut]; rw [if_pos hil]
    cases o with
    | bx kb et cs =>
      obtain ⟨b, e, us, h1, h2, h3, h4, h5, h6, h7⟩ := hoo
      exact ⟨b, e, us, by rw [hblk]; exact h1, h2, h3, h4, fun j u s hu hs => (h5 j u s hu hs).cut hm (List.all_eq_true.1 hbo s (List.mem_of_getElem? hs)), h6, h7⟩
    | buf mu e sz xs =>
      obtain ⟨h1, h2, h3, h4, h5⟩ := hoo
      refine ⟨h1, h2, h3, h4, ?_⟩
      rw [hblk]; exact h5
    | iter s pos =>
      obtain ⟨b, h1, h2, h3⟩ := hoo
      exact ⟨b, by rw [hblk]; exact h1, h2, h3⟩
    | map kb l =>
      obtain ⟨b, es, h1, h2⟩ := hoo
      exact ⟨b, es, by rw [hblk]; exact h1, h2⟩
    | miter m since seen st =>
      obtain ⟨b, bm, h1, h2, h3, h4⟩ := hoo
      have hml : m < h.length := by simpa [Ob.below] using hbo
      exact ⟨b, bm, by rw [hblk]; exact h1, hml, by simp only [Sx.cut]; rw [if_pos hml]; exact h3, h4⟩
    | gone => trivial

/-- what o says, o' says too -/
def WOb (o o' : Ob) : Prop := ∀ (g : Gh) (w : World) (id : Nat), ObOk g w id o' → ObOk g w id o
/-- the objects h are the first of η, or say less -/
def Pre : List Ob → List Ob → Prop
  | [], _ => True
  | o :: h, o' :: η => WOb o o' ∧ Pre h η
  | _ :: _, [] => False

theorem Pre.ex : ∀ {h η : List Ob}, Pre h η → ∃ r, (h ++ r).length = η.length ∧ ∀ (id : Nat) (o : Ob), (h ++ r)[id]? = some o → ∃ o', η[id]? = some o' ∧ WOb o o'
  | [], η, _ => ⟨η, rfl, fun id o h => ⟨o, h, fun _ _ _ h => h⟩⟩
  | o :: h, o' :: η, ⟨e, p⟩ => by
    obtain ⟨r, h1, h2⟩ := p.ex
    refine ⟨r, by simpa using h1, fun id q hq => ?_⟩
    cases id with
    | zero => simp at hq; subst hq; exact ⟨o', rfl, e⟩
    | succ id => exact h2 id q (by simpa using hq)
  | _ :: _, [], p => p.elim

theorem Pre_nil {η : List Ob} : Pre [] η := trivial
theorem Pre_w {o o' : Ob} {h η r : List Ob} (e1 : η = o' :: r) (e2 : WOb o o') (p : Pre h r) : Pre (o :: h) η := by subst e1; exact ⟨e2, p⟩
theorem Pre_cons {o o' : Ob} {h η r : List Ob} (e1 : η = o' :: r) (e2 : o = o') (p : Pre h r) : Pre (o :: h) η := by subst e1; subst e2; exact ⟨fun _ _ _ h => h, p⟩
theorem Pre_buf {o' : Ob} {h η r : List Ob} {mu : Bool} {e sz : Nat} {xs xs' : List D} (e1 : η = o' :: r) (e2 : o' = .buf mu e sz xs') (e3 : xs = xs') (p : Pre h r) : Pre (.buf mu e sz xs :: h) η := by subst e1; subst e2; subst e3; exact ⟨fun _ _ _ h => h, p⟩
/-- of that object nothing is said any more -/
theorem Pre_gone {o' : Ob} {h η r : List Ob} (e1 : η = o' :: r) (p : Pre h r) : Pre (.gone :: h) η := by subst e1; exact ⟨fun _ _ _ _ => trivial, p⟩

/-- what s, h say, σ, η say too -/
def Fits (s : Sl) (h : List Ob) (σ : Sl) (η : List Ob) : Prop := Le s σ ∧ Pre h η ∧ belowσ h.length s = true ∧ h.all (Ob.below h.length) = true

theorem Fits.abs {C : Ctx} {s σ : Sl} {h η : List Ob} {a : Act} {w : World} (f : Fits s h σ η) (ha : Abs C σ η a w) : Abs C s h a w := by
  obtain ⟨g, hg⟩ := ha
  obtain ⟨f1, f2, f3, f4⟩ := f
  obtain ⟨r, e1, e2⟩ := f2.ex
  have h1 := hg.get_eq f1
  have hob : ∀ (id : Nat) (o : Ob), (h ++ r)[id]? = some o → ObOk g w id o := fun id o ho => by
    obtain ⟨o', q1, q2⟩ := e2 id o ho
    exact q2 g w id (h1.inv.ob id o' q1)
  have hi : Inv g w (h ++ r) := { h1.inv with n := h1.inv.n.trans e1.symm, ob := hob }
  have h2 : AbsG C g s (h ++ r) a w := { h1 with inv := hi }
  exact ⟨_, h2.cut ⟨r, rfl⟩ f3 f4⟩

theorem Fits_mk {s σ : Sl} {h η : List Ob} (h1 : Le s σ) (h2 : Pre h η) (h3 : belowσ h.length s = true) (h4 : h.all (Ob.below h.length) = true) : Fits s h σ η := ⟨h1, h2, h3, h4⟩

theorem Le_d {σ : Sl} {k : Nat} {d d' : D} {r : Sl} (h : get σ k = .d d') (e : d = d') (hr : Le r σ) : Le ((k, .d d) :: r) σ := by subst e; exact Le_cons h hr
theorem Le_buf {σ : Sl} {k id n n' : Nat} {r : Sl} (h : get σ k = .buf id n') (e : n = n') (hr : Le r σ) : Le ((k, .buf id n) :: r) σ := by subst e; exact Le_cons h hr

theorem awp_fit {C : Ctx} {c : Code} {Q : Exit → Sl → List Ob → Prop} {s σ : Sl} {h η : List Ob} (f : Fits s h σ η) (hw : awp C c Q s h) : awp C c Q σ η := fun R hR a w hab => hw R hR a w (f.abs hab)

theorem awp_loopF {C : Ctx} {c : Code} {Q : Exit → Sl → List Ob → Prop} {σ : Sl} {η : List Ob} {α : Type} (I : α → Prop) (s : α → Sl) (h : α → List Ob) (μ : α → Nat) (x0 : α)
    (h0 : I x0) (e0 : Fits (s x0) (h x0) σ η)
    (round : ∀ x, I x → awp C c (athen (fun σ' η' => ∃ y, I y ∧ μ y < μ x ∧ Fits (s y) (h y) σ' η') Q) (s x) (h x)) : awp C (.loop c) Q σ η := by
  refine awp_fit e0 ?_
  refine awp_loop' I s h μ x0 h0 (fun x hx => ?_)
  intro R hR a w hab
  exact round x hx R (fun e σ' η' a' w' hq hab' => by
    cases e with
    | normal => obtain ⟨y, h1, h2, h3⟩ := hq; exact hR .normal _ _ a' w' ⟨y, h1, h2, rfl, rfl⟩ (h3.abs hab')
    | _ => exact hR _ _ _ _ _ hq hab') a w hab

theorem awp_scopeF {C : Ctx} {p rest rest' : Code} {Q : Exit → Sl → List Ob → Prop} {σ : Sl} {η : List Ob} {α : Type} (l : Nat) (hf : findLabel (p.seq ((Code.label l).seq rest)) l = some rest') (hr : rest' = Code.skip.seq rest) (I : α → Prop) (s : α → Sl) (h : α → List Ob) (μ : α → Nat)
    (first : awp C p (athen (fun σ' η' => ∃ y, I y ∧ Fits (s y) (h y) σ' η') (ajump l (fun _ _ => False) Q)) σ η)
    (pass : ∀ x, I x → awp C rest (ajump l (fun σ' η' => ∃ y, I y ∧ μ y < μ x ∧ Fits (s y) (h y) σ' η') Q) (s x) (h x)) : awp C (.scope (p.seq ((Code.label l).seq rest))) Q σ η := by
  subst hr
  have conv0 : ∀ x, I x → awp C rest (ajump l (fun σ' η' => ∃ y, I y ∧ μ y < μ x ∧ s y = σ' ∧ h y = η') Q) (s x) (h x) := by
    intro x hx R hR a w hab
    exact pass x hx R (fun e σ' η' a' w' hq hab' => by
      cases e with
      | goto l' => obtain ⟨e1, y, h1, h2, h3⟩ := hq; exact hR (.goto l') _ _ a' w' ⟨e1, y, h1, h2, rfl, rfl⟩ (h3.abs hab')
      | _ => exact hR _ _ _ _ _ hq hab') a w hab
  have conv : ∀ x, I x → awp C (Code.skip.seq rest) (ajump l (fun σ' η' => ∃ y, I y ∧ μ y < μ x ∧ s y = σ' ∧ h y = η') Q) (s x) (h x) := fun x hx => awp_seq (awp_skip (conv0 x hx))
  refine awp_scope' l hf I s h μ ?_ conv
  refine awp_seq ?_
  intro R hR a w hab
  refine first R (fun e σ' η' a' w' hq hab' => ?_) a w hab
  cases e with
  | normal =>
    obtain ⟨y, h1, h2⟩ := hq
    refine hR .normal (s y) (h y) a' w' ?_ (h2.abs hab')
    refine awp_seq (awp_label ?_)
    intro R2 hR2 a2 w2 hab2
    refine conv0 y h1 R2 (fun e σ' η' a' w' hq hab' => ?_) a2 w2 hab2
    cases e with
    | goto l' => obtain ⟨e1, z, z1, z2, z3, z4⟩ := hq; exact hR2 (.goto l') _ _ a' w' ⟨e1, z, z1, z3, z4⟩ hab'
    | _ => exact hR2 _ _ _ _ _ hq hab'
  | goto l' => exact hq.2.elim
  | _ => exact hR _ _ _ _ _ hq hab'

/-- the same, the label two steps in -/
theorem awp_scopeF2 {C : Ctx} {p q rest rest' : Code} {Q : Exit → Sl → List Ob → Prop} {σ : Sl} {η : List Ob} {α : Type} (l : Nat) (hf : findLabel (p.seq (q.seq ((Code.label l).seq rest))) l = some rest') (hr : rest' = Code.skip.seq rest) (I : α → Prop) (s : α → Sl) (h : α → List Ob) (μ : α → Nat)
    (first : awp C p (athen (awp C q (athen (fun σ' η' => ∃ y, I y ∧ Fits (s y) (h y) σ' η') (ajump l (fun _ _ => False) Q))) (ajump l (fun _ _ => False) Q)) σ η)
    (pass : ∀ x, I x → awp C rest (ajump l (fun σ' η' => ∃ y, I y ∧ μ y < μ x ∧ Fits (s y) (h y) σ' η') Q) (s x) (h x)) : awp C (.scope (p.seq (q.seq ((Code.label l).seq rest)))) Q σ η := by
  subst hr
  have conv0 : ∀ x, I x → awp C rest (ajump l (fun σ' η' => ∃ y, I y ∧ μ y < μ x ∧ s y = σ' ∧ h y = η') Q) (s x) (h x) := by
    intro x hx R hR a w hab
    exact pass x hx R (fun e σ' η' a' w' hq hab' => by
      cases e with
      | goto l' => obtain ⟨e1, y, h1, h2, h3⟩ := hq; exact hR (.goto l') _ _ a' w' ⟨e1, y, h1, h2, rfl, rfl⟩ (h3.abs hab')
      | _ => exact hR _ _ _ _ _ hq hab') a w hab
  have conv : ∀ x, I x → awp C (Code.skip.seq rest) (ajump l (fun σ' η' => ∃ y, I y ∧ μ y < μ x ∧ s y = σ' ∧ h y = η') Q) (s x) (h x) := fun x hx => awp_seq (awp_skip (conv0 x hx))
  refine awp_scope' l hf I s h μ ?_ conv
  refine awp_seq ?_
  intro R hR a w hab
  refine first R (fun e σ' η' a' w' hq hab' => ?_) a w hab
  cases e with
  | normal =>
    refine hR .normal σ' η' a' w' ?_ hab'
    refine awp_seq ?_
    intro R3 hR3 a3 w3 hab3
    refine hq R3 (fun e σ' η' a' w' hq hab' => ?_) a3 w3 hab3
    cases e with
    | normal =>
      obtain ⟨y, h1, h2⟩ := hq
      refine hR3 .normal (s y) (h y) a' w' ?_ (h2.abs hab')
      refine awp_seq (awp_label ?_)
      intro R2 hR2 a2 w2 hab2
      refine conv0 y h1 R2 (fun e σ' η' a' w' hq hab' => ?_) a2 w2 hab2
      cases e with
      | goto l' => obtain ⟨e1, z, z1, z2, z3, z4⟩ := hq; exact hR2 (.goto l') _ _ a' w' ⟨e1, z, z1, z3, z4⟩ hab'
      | _ => exact hR2 _ _ _ _ _ hq hab'
    | goto l' => exact hq.2.elim
    | _ => exact hR3 _ _ _ _ _ hq hab'
  | goto l' => exact hq.2.elim
  | _ => exact hR _ _ _ _ _ hq hab'

end Go.Sx
/- The engine: places in what reads as a list; literals that are not appended to; calls that hand over a row of their own. -/
namespace Go.Sx
open Go.RowKit

section
variable {P : Program} {η : List Ob} {σ : Sl} {dst : Option Nat} {ty : TypeId} {pos : String} {after : Array Edge} {gd : Option (Nat × Bool)} {t : TypeId} {x y z : Operand}

theorem Y_indexC {sz : Nat} {n : Int} {xs : List D} {d : D} {k : IntKind} (hc : Co η (oval σ x) (.slice xs)) (hy : oval σ y = .d (.val (.int k n))) (hs : elemSize P t = some sz) (h0 : 0 ≤ n) (hd : xs[n.toNat]? = some d) (hf : ∀ d ∈ xs, d.flat.length = sz) :
    Ylds P η σ ⟨dst, .indexAddr t x y, ty, pos, after, gd⟩ (.rptr d.flat) := by
  obtain ⟨e, i, hu, hi', hsz'⟩ := elemSize_some hs
  refine Ylds.same fun g w a hi h => ?_
  have h2 := h y (by simp [Op.operands]); rw [hy] at h2
  obtain ⟨oa, cap, us, hv, hcap, hm, hul, h1c, hcell, hrep⟩ := (hc.rep hi (h x (by simp [Op.operands]))).open_slice hf
  have hlt : n.toNat < xs.length := (List.getElem?_eq_some_iff.1 hd).1
  have hfd := hf d (List.mem_of_getElem? hd)
  obtain ⟨ad, rfl, hcc⟩ := hcell (by omega)
  have hmul : (n.toNat + 1) * sz ≤ xs.length * sz := Nat.mul_le_mul_right _ (by omega)
  refine ⟨.pointer (some (ad.add (n.toNat * sz))), ?_, ad.add (n.toNat * sz), (us.drop (n.toNat * sz)).take sz, rfl, ?_, ?_, ?_, ?_⟩
  · have hb : 0 ≤ n ∧ n < (xs.length : Int) := ⟨h0, by omega⟩
    simp [execOp, hv, RepD.val_eq h2, Instr.indexAt, asIntOf, run_underlying hu, hb.1, hb.2, sizeOf, typeInfo, hi', hsz']
  · rw [List.length_take, List.length_drop, hfd, hul]; rw [Nat.add_mul] at hmul; omega
  · exact fun u hm => h1c u (List.mem_of_mem_drop (List.mem_of_mem_take hm))
  · intro j u hj
    rw [List.getElem?_take] at hj
    split at hj
    · rw [list_drop_get] at hj; exact (hcc _ _ hj).shift
    · cases hj
  · intro j u d' hj hd'
    rw [List.getElem?_take] at hj
    split at hj
    · rename_i hlt'
      rw [list_drop_get] at hj
      exact hrep _ _ _ hj ((flats_at hf hd hlt').trans hd')
    · cases hj

/-- a slice literal that is only read -/
theorem Y_lit {sz e n : Nat} {xs : List Operand} {ds : List D} (he : elemTy P t = some e) (hs : elemSize P t = some sz) (hz : (zeroOf P e).isSome = true) (hp : Nat.blt 0 sz = true) (hb : Nat.ble (n * sz) 16777216 = true) {parts : Array (Nat × Operand)} (hparts : parts = ((xs.zipIdx 0).map fun x => (x.2, x.1)).toArray)
    (hl : xs.length = n) (hc : CoL η σ xs ds) (hf : ∀ d ∈ ds, d.flat.length = sz) (hok : ds.all okc = true) : Ylds P η σ ⟨dst, .buildSlice t n parts, ty, pos, after, gd⟩ (.d (.slice ds)) := by
  have hp : 0 < sz := by simpa using hp
  have hb := Nat.le_of_ble_eq_true hb
  subst hparts
  intro g w a hinv hop
  refine .inl ?_
  obtain ⟨e', i, hu, hi, hsz⟩ := elemSize_some hs
  have : e' = e := by have := elemTy_some he; rw [hu] at this; injection this with this; injection this
  subst this
  have hrep := CoL.rep (a := a) hinv xs ds (fun x hx => hop x (by
    simp only [Op.operands, List.map_map, List.mem_toArray, List.mem_map]
    obtain ⟨j, hj, rfl⟩ := List.mem_iff_getElem.1 hx
    exact ⟨(xs[j], j), by rw [List.mem_iff_getElem]; exact ⟨j, by simpa using hj, by simp⟩, rfl⟩)) hc
  have hlen := hrep.len
  rw [List.length_map] at hlen
  obtain ⟨i1, i2⟩ := RepDs.cells _ ds hrep hf hok
  have hfl := flatMap_len (sz := sz) (xs.map a.eval) (fun v hv => (i1 v hv).1)
  rw [List.length_map, hl] at hfl
  let us := ((xs.map a.eval).flatMap fun v => v.cells.toList).toArray
  have hus : us.size = n * sz := by simpa [us] using hfl
  have hpe : ((((xs.zipIdx 0).map fun x => (x.2, x.1)).toArray).map fun (p : Nat × Operand) => (p.1, a.eval p.2)).toList = (((xs.map a.eval).zipIdx 0).map fun x => (x.2, x.1)) := by
    simp [List.zipIdx_map, List.map_map, Function.comp_def]
  have hrun : (Instr.buildSlice t n ((((xs.zipIdx 0).map fun x => (x.2, x.1)).toArray).map fun (p : Nat × Operand) => (p.1, a.eval p.2))).run P w = .ok (.slice (some ⟨w.heap.size, 0, none⟩) n n) (w.alloc (.cells us e')) := by
    have hzz : ∃ z, i.zero = some z := by
      unfold zeroOf at hz; rw [hi] at hz
      cases hq : i.zero with
      | none => simp [hq] at hz
      | some z => exact ⟨z, rfl⟩
    obtain ⟨z, hzz⟩ := hzz
    by_cases h0 : n = 0
    · subst h0
      have hx : xs = [] := List.eq_nil_of_length_eq_zero hl
      subst hx
      simp [Instr.buildSlice, run_underlying hu, sizeOf, typeInfo, hi, newRow, Instr.fill, us, Array.range_zero']
    · have hne : ¬ n * i.size = 0 := by rw [hsz]; intro h; rcases Nat.mul_eq_zero.1 h with h | h <;> omega
      have hfw := Great.fill_whole hp (xs.map a.eval) ((Array.range (n * i.size)).map (z.cells[· % z.cells.size]!)) (fun v hv => (i1 v hv).1) (by simp [hl, hsz])
      exact run_buildSlice w t e' n _ us i z hu hi hzz (by rw [hsz]; omega) hne (by rw [hpe]; rw [← hsz] at hfw; exact hfw)
  let g' : Gh := { g with St := fun b o => g.St b o ∨ (b = w.heap.size ∧ o < n * sz) }
  have hgr : Grow g w g' (w.alloc (.cells us e')) := ⟨rfl, rfl, rfl, rfl, rfl, rfl, rfl, by simp, fun k hk => Below.heap_alloc w _ k hk, fun _ _ h => .inl h, fun b o h => h.imp_right fun h => by omega, fun b o h => by
    rcases h with h | h
    · exact Nat.lt_of_lt_of_le (hinv.st b o h) (by simp)
    · rw [h.1]; simp⟩
  refine ⟨_, g', _, by simp only [execOp, Sem.run_bind]; rw [hrun]; rfl, hgr, ?_⟩
  have hfds : (flats ds).length = n * sz := by rw [flats_len hf, ← hlen, hl]
  have hn63 : n ≤ maxLen := by simp only [maxLen]; have : n * 1 ≤ n * sz := Nat.mul_le_mul_left _ hp; omega
  refine RepD.slice _ n n sz ds us.toList (by omega) (Nat.le_refl _) hn63 hf (by rw [Array.length_toList, hus, hfds]) (fun u hu => ?_) (fun h0 => ⟨_, rfl, fun j u hj => ⟨.inr ⟨rfl, ?_⟩, ?_⟩⟩) (fun j u d hu hd => ?_)
  · simp only [us, List.mem_flatMap] at hu
    obtain ⟨v, hv, hm⟩ := hu
    exact (i1 v hv).2 u (by simpa using hm)
  · have := (List.getElem?_eq_some_iff.1 hj).1
    rw [Array.length_toList, hus] at this; simpa using this
  · rw [Addr.add_lit, Nat.zero_add, cell_of_row _ _ j us e' (0, 0) (_root_.Go.heap_alloc_new w _)]
    rw [← Array.getElem?_toList]; exact hj
  · exact (i2 j u d (by simpa [us] using hu) hd).keep (hgr.keep hinv.st)

theorem Y_cap_nil (hx : oval σ x = .nil) (hu : (elemTy P t).isSome = true) : Ylds P η σ ⟨dst, .call ⟨.builtin .cap, #[x], #[t]⟩, ty, pos, after, gd⟩ (.d (.val (.int .i64 0))) := by
  obtain ⟨e, he⟩ := Option.isSome_iff_exists.1 hu
  refine Ylds.same fun g w a hi h => ⟨.int .i64 0, ?_, .val _⟩
  have h1 := h x (by simp [Op.operands, Call.operands]); rw [hx] at h1
  change _ = _ at h1
  simp [execOp, resolve, invoke, builtin, Builtin.cap_, run_underlying (elemTy_some he), h1, goInt]

theorem Y_sl_nil {k : IntKind} (hx : oval σ x = .nil) (hs : (elemSize P t).isSome = true) (hz : oval σ z = .d (.val (.int k 0))) : Ylds P η σ ⟨dst, .slice t x none (some z) none, ty, pos, after, gd⟩ .nil := by
  obtain ⟨sz, hs⟩ := Option.isSome_iff_exists.1 hs
  obtain ⟨e, i, hu, hi', hsz⟩ := elemSize_some hs
  refine Ylds.same fun g w a hi h => ⟨.slice none 0 0, ?_, rfl⟩
  have h1 := h x (by simp [Op.operands]); rw [hx] at h1
  have h2 := h z (by simp [Op.operands]); rw [hz] at h2
  change _ = _ at h1
  have := run_sliceAt hu hi' none 0 0 0 0 none (some (a.eval z)) (.inl ⟨rfl, rfl⟩) (.inr ⟨k, by rw [RepD.val_eq h2]; rfl⟩) (Nat.le_refl _) (Nat.le_refl _) w
  simp only [execOp, h1, Sem.run_bind, Sem.run_pure, Option.map_none, Option.map_some, this, Result.andThen_ok]
  rfl

/-- an aggregate of plain cells is that aggregate -/
theorem RepD.agg_vals {St : Stab} {w : World} {v : Value} {us : List Value} (h : RepD St w v (.agg (us.map .val))) : v = .agg us.toArray := by
  cases h with
  | agg vs _ hl h1 hr =>
    congr 1
    congr 1
    refine List.ext_getElem? fun j => ?_
    rw [List.length_map] at hl
    rcases Nat.lt_or_ge j vs.length with hj | hj
    · have e1 : vs[j]? = some vs[j] := List.getElem?_eq_getElem hj
      have e2 : us[j]? = some (us[j]'(by omega)) := List.getElem?_eq_getElem (by omega)
      have := (hr j _ (.val (us[j]'(by omega))) e1 (by rw [List.getElem?_map, e2]; rfl)).val_eq
      rw [e1, e2, this]
    · rw [List.getElem?_eq_none hj, List.getElem?_eq_none (by omega)]

theorem Y_binA {op : BinOp} {yt : TypeId} {us vs : List Value} {r : Value} (hx : oval σ x = .d (.agg (us.map .val))) (hy : oval σ y = .d (.agg (vs.map .val)))
    (hr : ∀ w, ((do eqGuard op t x y (.agg us.toArray) (.agg vs.toArray); binOp op t (.agg us.toArray) (.agg vs.toArray) : Sem Value)).run P w = .ok r w) : Ylds P η σ ⟨dst, .binOp op t x y yt, ty, pos, after, gd⟩ (.d (.val r)) := by
  refine Ylds.same fun g w a hi h => ⟨r, ?_, .val r⟩
  have h1 := h x (by simp [Op.operands]); rw [hx] at h1
  have h2 := h y (by simp [Op.operands]); rw [hy] at h2
  have := hr w
  simp only [execOp, RepD.agg_vals h1, RepD.agg_vals h2, Sem.run_bind, Sem.run_pure] at this ⊢
  generalize (eqGuard op t x y (.agg us.toArray) (.agg vs.toArray)).run P w = A at this ⊢
  cases A with
  | ok q w' => simp only [Result.andThen_ok] at this ⊢; rw [this]; rfl
  | halt q w' => simp only [Result.andThen_halt] at this; cases this
end

section
variable {C : Ctx} {dr : Bool} {ops : Array Oper} {rest : List Oper} {K : Sl → List Ob → Prop} {σ : Sl} {η : List Ob} {d : Nat} {ty : TypeId} {pos : String} {after : Array Edge} {gd : Option (Nat × Bool)} {t : TypeId} {x y : Operand} {α : Type} {enc : α → D} {L : List α}

/-- a place in a list: what stands there -/
theorem aI {sz : Nat} {n : Int} {k : IntKind} (hc : Co η (oval σ x) (.slice (L.map enc))) (hy : oval σ y = .d (.val (.int k n))) (hs : elemSize C.P t = some sz) (hd : Nat.blt d C.N = true)
    (hf : ∀ v, (enc v).flat.length = sz) (h0 : 0 ≤ n ∧ n < (L.length : Int)) (h : ∀ v, L[n.toNat]? = some v → alex C dr ops rest K ((d, .rptr (enc v).flat) :: σ) η) :
    astep C dr ops ⟨some d, .indexAddr t x y, ty, pos, after, gd⟩ rest K σ η := by
  have hlt : n.toNat < L.length := by omega
  have hv : L[n.toNat]? = some L[n.toNat] := List.getElem?_eq_getElem hlt
  exact ay hd (Y_indexC hc hy hs h0.1 (by rw [List.getElem?_map, hv]; rfl) (fun d hd => by obtain ⟨v, _, rfl⟩ := List.mem_map.1 hd; exact hf v)) (h _ hv)
/-- the same, where it is known what stands there -/
theorem aJ {sz : Nat} {n : Int} {k : IntKind} {v : α} (hc : Co η (oval σ x) (.slice (L.map enc))) (hy : oval σ y = .d (.val (.int k n))) (hs : elemSize C.P t = some sz) (hv : L[n.toNat]? = some v) (h0 : 0 ≤ n) (hd : Nat.blt d C.N = true)
    (hf : ∀ v, (enc v).flat.length = sz) (h : alex C dr ops rest K ((d, .rptr (enc v).flat) :: σ) η) :
    astep C dr ops ⟨some d, .indexAddr t x y, ty, pos, after, gd⟩ rest K σ η :=
  ay hd (Y_indexC hc hy hs h0 (by rw [List.getElem?_map, hv]; rfl) (fun d hd => by obtain ⟨v, _, rfl⟩ := List.mem_map.1 hd; exact hf v)) h

/-- append(nil, make([]T, n)...) -/
theorem aAppMk {e sz by' : Nat} {zd : D} {n : Int} {k kn : IntKind} {tn : TypeId} (hx : oval σ x = .nil) (hy : oval σ y = .d (.val (.int k n))) (htn : C.P.underlying tn = some (.int kn)) (he : elemTy C.P t = some e) (hs : elemSize C.P t = some sz) (hz : zeroD C.P e = some zd) (hzl : zd.flat.length = sz) (hp : Nat.blt 0 sz = true) (hb : bytesOf C.P t = some by')
    (hd : Nat.blt d C.N = true) (hro : Nat.ble C.ro η.length = true) (hn : 0 < n ∧ n * by' ≤ 281474976710656 ∧ n ≤ 281474976710656)
    (h : alex C false ops rest K ((d, .buf η.length n.toNat) :: σ) (η ++ [.buf true e sz (List.replicate n.toNat zd)])) :
    astep C false ops ⟨some d, .call ⟨.builtin .append, #[x, y], #[t, tn]⟩, ty, pos, after, gd⟩ rest K σ η := by
  have hp : 0 < sz := by simpa using hp
  refine estep (fun g a w ha => ?_) h
  obtain ⟨e', i, hu, hi, hsz⟩ := elemSize_some hs
  have : e' = e := by have := elemTy_some he; rw [hu] at this; injection this with this; injection this
  subst this
  have hby : i.bytes = by' := by
    obtain ⟨e2, i2, h1, h2, h3⟩ := bytesOf_some hb
    rw [hu] at h1; injection h1 with h1; injection h1 with h1; subst h1
    rw [hi] at h2; injection h2 with h2; subst h2; exact h3
  obtain ⟨z, hzz, hzs, hz1, hzr⟩ := zeroD_some hi hz
  have hxr := ha.eval x; rw [hx] at hxr
  change _ = _ at hxr
  have hyr := ha.eval y; rw [hy] at hyr
  obtain ⟨m, rfl⟩ : ∃ m : Nat, n = m := ⟨n.toNat, by omega⟩
  rw [Int.toNat_natCast]
  have hrun := Lib.run_append_nil_zeros (P := C.P) w t tn ty e' i z k kn hu htn hi hzz m (by omega) (by omega) (by omega) (by rw [hby]; exact Int.ofNat_le.1 (by rw [Int.natCast_mul]; exact hn.2.1))
  have hge := grownCap_ge w m 0 e'
  have hcm := grownCap_le_maxLen w m 0 e' (by simp only [maxLen]; omega)
  have hzc : z.cells.size = sz := by rw [hzs, hzl]
  have hget : ∀ (c j : Nat) (u : Value), (Builtin.zeroCells z.cells c)[j]? = some u → j < c * sz ∧ z.cells[j % sz]? = some u := by
    intro c j u hu
    unfold Builtin.zeroCells at hu
    obtain ⟨hj, hu⟩ := Array.getElem?_eq_some_iff.1 hu
    simp [hzc] at hj
    simp only [Array.getElem_map, Array.getElem_range, hzc] at hu
    have hm : j % sz < z.cells.size := by rw [hzc]; exact Nat.mod_lt _ hp
    rw [getElem!_pos z.cells (j % sz) hm] at hu
    exact ⟨hj, by rw [Array.getElem?_eq_getElem hm, hu]⟩
  have hg0 : ∀ (j : Nat) (u : Value), (Builtin.zeroCells z.cells m ++ Builtin.zeroCells z.cells (grownCap w m 0 e' - m))[j]? = some u → j < m * sz → z.cells[j % sz]? = some u := by
    intro j u hu hj
    rw [Array.getElem?_append_left (by rw [size_zeroCells, hzc]; exact hj)] at hu
    exact (hget m j u hu).2
  have hbuf := ha.newBuf (w' := w.drew.alloc (.cells (Builtin.zeroCells z.cells m ++ Builtin.zeroCells z.cells (grownCap w m 0 e' - m)) e')) true e' sz (grownCap w m 0 e') _ (List.replicate m zd) rfl rfl rfl (by simp) (fun k hk => Below.heap_alloc w.drew _ k hk) (_root_.Go.heap_alloc_new w.drew _) (Nat.le_of_ble_eq_true hro)
    (fun x hx => by rw [List.eq_of_mem_replicate hx]; exact hzl) (by simpa using hge) hcm (by rw [Array.size_append, size_zeroCells, size_zeroCells, hzc, ← Nat.add_mul]; congr 1; omega)
    (fun j u hj hu => hz1 u (Array.mem_of_getElem? (hg0 j u hu (by simpa using hj))))
    (fun j u d' hu hd' => by
      have hj : j < m * sz := by
        have := (List.getElem?_eq_some_iff.1 hd').1
        rw [flats_len (sz := sz) (fun x hx => by rw [List.eq_of_mem_replicate hx]; exact hzl)] at this
        simpa using this
      rw [flats_rep m zd j (by rw [hzl]; exact hp) (by rw [hzl]; exact hj), hzl] at hd'
      exact hzr g.St w _ u d' (hg0 j u hu hj) hd')
  refine ⟨_, _, by simp only [execOp, resolve, invoke, builtin, Sem.run_bind, Sem.run_pure, Result.andThen_ok, List.map_toArray, List.map_cons, List.map_nil, hxr, RepD.val_eq hyr, hrun]; rfl, _, hbuf.put (d := some d) hd ⟨?_, ?_⟩⟩
  · show η.length < g.n + 1; have := ha.inv.n; omega
  · have hn' := ha.inv.n
    show _ = Value.slice ((upd g.blk g.n (some w.heap.size) η.length).map _) _ (upd g.cap g.n (grownCap w m 0 e') η.length)
    rw [← hn']; simp [upd]

/-- a slot that is known to be the nil slice -/
theorem awp_nil {Q : Exit → Sl → List Ob → Prop} {c : Code} (u : Nat) (hu : get σ u = .d (.val (.slice none 0 0))) (h : awp C c Q ((u, .nil) :: σ) η) : awp C c Q σ η := by
  intro R hR a w ⟨g, ha⟩
  refine h R hR a w ⟨g, { ha with rep := fun v => ?_ }⟩
  rw [get_cons]
  split
  · rename_i e; subst e
    have := ha.rep u; rw [hu] at this
    exact RepD.val_eq this
  · exact ha.rep v
end

/-- What a call of f hands over: a row of the caller's own from now on. -/
def FCall (P : Program) (f : FuncId) (ds : List D) (n : Nat) (e sz : Nat) (xs : List D) : Prop :=
  ∀ (St : Stab) (w : World) (vs : List Value), (∀ b o, St b o → b < w.heap.size) → Glob St w → RepDs St w vs ds →
    Calls P f vs.toArray w (fun r w' => ∃ ob cap St', r = .returned (.slice (ob.map (⟨·, 0, none⟩)) n cap) ∧ Below w.heap.size w w' ∧ Keep St w St' w' ∧
      (∀ b o, St' b o → St b o ∨ w.heap.size ≤ b) ∧ (∀ b o, St' b o → b < w'.heap.size) ∧ cap ≤ maxLen ∧ xs.length ≤ cap ∧ (∀ x ∈ xs, x.flat.length = sz) ∧
      ((ob = none ∧ cap = 0) ∨ ∃ b us, ob = some b ∧ w.heap.size ≤ b ∧ w'.heap[b]? = some (.cells us e (0, 0)) ∧ us.size = cap * sz ∧ (∀ (j : Nat) (u : Value), j < xs.length * sz → us[j]? = some u → u.oneCell' = true) ∧
        (∀ (j : Nat) (u : Value) (d : D), us[j]? = some u → (flats xs)[j]? = some d → RepD St' w' u d) ∧ ∀ o, ¬ St' b o))

def FPost (rs : Array ResultVar) (n e sz : Nat) (xs : List D) (σ : Sl) (η : List Ob) : Prop :=
  ∃ r, rs = #[.tmp r] ∧ ((get σ r = .nil ∧ xs = [] ∧ n = 0) ∨ ∃ id, get σ r = .buf id n ∧ η[id]? = some (.buf true e sz xs))

def fpost (rs : Array ResultVar) (n e sz : Nat) (xs : List D) : Exit → Sl → List Ob → Prop
  | .ret, σ, η => FPost rs n e sz xs σ η
  | _, _, _ => False
theorem fpost_ret {rs : Array ResultVar} {n e sz : Nat} {xs : List D} {σ : Sl} {η : List Ob} (h : FPost rs n e sz xs σ η) : fpost rs n e sz xs .ret σ η := h

theorem fcall_of {P : Program} {f : FuncId} {fn : Func} {c : Code} {ds : List D} {n e sz : Nat} {xs : List D} {N : Nat} {rs : Array ResultVar} (hf : P.funcs[f]? = some fn) (hb : fn.body = some c) (hN : fn.ntmps = N) (hrs : fn.results = rs) (hl : Nat.ble ds.length N = true) (hxs : ∀ x ∈ xs, x.flat.length = sz)
    (h : ∀ (w0 : World) (St0 : Stab), awp ⟨P, N, w0, St0, fun _ => False, 0⟩ c (fpost rs n e sz xs) (args0 ds 0) []) : FCall P f ds n e sz xs := by
  intro St w vs hst hgl hrep
  subst hN
  have hl := Nat.le_of_ble_eq_true hl
  have hlen := hrep.len
  refine calls_of_wp hf hb (h w St _ ?_ _ _ ?_)
  · intro ex σ' η' a' w' hq ⟨g, ha⟩
    cases ex with
    | ret =>
      obtain ⟨r, rfl, hq⟩ := hq
      have hnew : ∀ b o, g.St b o → St b o ∨ w.heap.size ≤ b := fun b o hb => by
        rcases ha.new b o hb with h1 | h1 | h1
        · exact .inl h1
        · exact .inr h1
        · exact h1.elim
      have hbel : Below w.heap.size w w' := ⟨ha.os, ha.tape, ha.output, ha.wsize, fun k hk => ha.heap k hk (fun h => h)⟩
      refine ⟨ha.defers, _, results_tmp hrs _ _ _, ?_⟩
      rcases hq with ⟨hq, rfl, rfl⟩ | ⟨id, hq, ho⟩
      · have := ha.rep r; rw [hq] at this
        exact ⟨none, 0, g.St, congrArg Ending.returned this, hbel, ha.keep, hnew, ha.inv.st, Nat.zero_le _, Nat.le_refl _, by simp, .inl ⟨rfl, rfl⟩⟩
      · have := ha.rep r; rw [hq] at this
        obtain ⟨_, hv⟩ := this
        obtain ⟨o1, o2, o3, o4, o5⟩ := ha.inv.ob id _ ho
        refine ⟨g.blk id, g.cap id, g.St, congrArg Ending.returned hv, hbel, ha.keep, hnew, ha.inv.st, o3, o4, o2, ?_⟩
        rcases o5 with o5 | ⟨b, us, h1, h2, h3, h4, h5, h6⟩
        · exact .inl o5
        · refine .inr ⟨b, us, h1, ?_, h2, h3, h4, h5, fun o hc => by have := (h6 o).1 hc; cases this.1⟩
          rcases ha.own id b h1 (Nat.zero_le _) with h7 | h7
          · exact h7
          · exact h7.elim
    | _ => exact hq.elim
  · refine ⟨⟨St, fun _ => none, fun _ => 0, fun _ => 0, 0⟩, rfl, ?_, ⟨rfl, fun _ _ h => by simp at h, fun _ _ => rfl, fun _ _ _ h => by simp at h, fun _ _ h => by simp at h, hst, hgl⟩, rfl, rfl, rfl, Nat.le_refl _, fun _ _ _ => rfl, Keep.refl St w, fun _ _ h => .inl h, fun _ _ h => by simp at h, ?_⟩
    · simp [hlen]; omega
    · refine args0_rep vs ds 0 _ hrep fun j v hj => ?_
      have hjl : j < vs.length := (List.getElem?_eq_some_iff.1 hj).1
      simp only [Nat.zero_add, Array.getD_eq_getD_getElem?]
      rw [Array.getElem?_append_left (by simpa using hjl)]
      simp [hj]

section
variable {C : Ctx} {ops : Array Oper} {rest : List Oper} {K : Sl → List Ob → Prop} {σ : Sl} {η : List Ob} {d : Nat} {ty : TypeId} {pos : String} {after : Array Edge} {gd : Option (Nat × Bool)}
theorem aFCall {f : FuncId} {args : List Operand} {ts : Array TypeId} {ds : List D} {n e sz : Nat} {xs : List D} (hb : hasBody C.P f = true) (hc : FCall C.P f ds n e sz xs) (ha : CoL η σ args ds) (hd : Nat.blt d C.N = true) (hro : Nat.ble C.ro η.length = true)
    (h : alex C false ops rest K ((d, .buf η.length n) :: σ) (η ++ [.buf true e sz xs])) :
    astep C false ops ⟨some d, .call ⟨.value (.func f), args.toArray, ts⟩, ty, pos, after, gd⟩ rest K σ η := by
  intro Q hQ a w ⟨g, hg⟩ K' hK'
  have hr := CoL.rep (a := a) hg.inv args ds (fun x _ => hg.eval x) ha
  unfold Oper.wp
  have hrun : (execOp a.eval ⟨some d, .call ⟨.value (.func f), args.toArray, ts⟩, ty, pos, after, gd⟩).run C.P w = .ok (.enter f (args.map a.eval).toArray) w := by
    simp only [execOp, resolve, Act.eval, Deferred.ofValue, invoke, Sem.run_bind, Sem.run_pure, Result.andThen_ok, List.map_toArray, Array.empty_append, Array.append_empty]
    exact hasBody_run hb
  rw [hrun, Oper.upon_enter]
  refine (hc g.St w _ hg.inv.st hg.inv.gl hr).mono fun r w' ⟨ob, cap, St', he, hbel, hkeep, hnew, hlt, hcm, hxc, hfx, hob⟩ => ?_
  subst he
  refine hK' _ _ (h Q hQ _ w' ?_)
  have hn := hg.inv.n
  let g' : Gh := { St := St', blk := upd g.blk g.n ob, cap := upd g.cap g.n cap, sz := upd g.sz g.n sz, n := g.n + 1 }
  have hold : ∀ id, id < g.n → g'.blk id = g.blk id ∧ g'.cap id = g.cap id ∧ g'.sz id = g.sz id := fun id hid => by simp [g', upd, Nat.ne_of_lt hid]
  have hab := hg.newOb (g' := g') (w' := w') (.buf true e sz xs) hbel.os hbel.tape hbel.output hbel.size hbel.block rfl hold (fun id hid => by
      have hne : id ≠ g.n := by omega
      simp only [g', upd, if_neg hne]
      exact hg.inv.dead id (by omega)) (fun b hb => by
      have hb : ob = some b := by simpa [g', upd] using hb
      rcases hob with ⟨h1, _⟩ | ⟨b', us, h1, h2, h3, _⟩
      · rw [h1] at hb; cases hb
      · rw [h1] at hb; injection hb with hb; subst hb; exact ⟨h2, (Array.getElem?_eq_some_iff.1 h3).1⟩) hkeep.sub hnew hlt (by rw [hn]; exact Nat.le_of_ble_eq_true hro)
    ⟨by simp [g', upd], hfx, by simpa [g', upd] using hcm, by simpa [g', upd] using hxc, by
      rcases hob with ⟨h1, h2⟩ | ⟨b', us, h1, h2, h3, h4, h5, h6, h7⟩
      · exact .inl (by simp [g', upd, h1, h2])
      · exact .inr ⟨b', us, by simp [g', upd, h1], h3, by simpa [g', upd] using h4, h5, h6, fun o => ⟨fun hc => absurd hc (h7 o), fun hc => by cases hc.1⟩⟩⟩
  refine ⟨g', hab.put (d := some d) hd ⟨?_, ?_⟩⟩
  · show η.length < g.n + 1; omega
  · show _ = Value.slice ((upd g.blk g.n ob η.length).map _) _ (upd g.cap g.n cap η.length)
    rw [← hn]; simp [upd]
end

end Go.Sx
/- The engine: the steps in the forms in which a printed proof meets them. -/
namespace Go.Sx
open Go.RowKit

def sized (ds : List D) (sz : Nat) : Bool := ds.all fun d => Nat.beq d.flat.length sz && okc d
theorem sized_spec {ds : List D} {sz : Nat} (h : sized ds sz = true) : (∀ d ∈ ds, d.flat.length = sz) ∧ ds.all okc = true := by
  refine ⟨fun d hd => ?_, List.all_eq_true.2 fun d hd => ?_⟩ <;> have := List.all_eq_true.1 h d hd <;> simp only [Bool.and_eq_true] at this
  · exact Nat.eq_of_beq_eq_true this.1
  · exact this.2

theorem sz_map {α : Type} {enc : α → D} {L : List α} {sz : Nat} (h : ∀ v, (enc v).flat.length = sz) : ∀ d ∈ L.map enc, d.flat.length = sz := fun d hd => by obtain ⟨v, _, rfl⟩ := List.mem_map.1 hd; exact h v
theorem sz_lit {ds : List D} {sz : Nat} (h : sized ds sz = true) : ∀ d ∈ ds, d.flat.length = sz := (sized_spec h).1

section
variable {P : Program} {η : List Ob} {σ : Sl} {dst : Option Nat} {ty : TypeId} {pos : String} {after : Array Edge} {gd : Option (Nat × Bool)} {t : TypeId} {x y z u : Operand} {sz e : Nat} {ds : List D}
theorem Y_lit0 (he : elemTy P t = some e) (hs : elemSize P t = some sz) (hz : (zeroOf P e).isSome = true) (hp : Nat.blt 0 sz = true) : Ylds P η σ ⟨dst, .buildSlice t 0 #[], ty, pos, after, gd⟩ (.d (.slice [])) :=
  Y_lit (xs := []) he hs hz hp (by simp) (by rfl) rfl CoL_nil (by simp) rfl
theorem Y_lit1 (he : elemTy P t = some e) (hs : elemSize P t = some sz) (hz : (zeroOf P e).isSome = true) (hp : Nat.blt 0 sz = true) (hb : Nat.ble (1 * sz) 16777216 = true) (hc : CoL η σ [x] ds) (hf : sized ds sz = true) : Ylds P η σ ⟨dst, .buildSlice t 1 #[(0, x)], ty, pos, after, gd⟩ (.d (.slice ds)) :=
  Y_lit (xs := [x]) he hs hz hp hb (by rfl) rfl hc (sized_spec hf).1 (sized_spec hf).2
theorem Y_lit2 (he : elemTy P t = some e) (hs : elemSize P t = some sz) (hz : (zeroOf P e).isSome = true) (hp : Nat.blt 0 sz = true) (hb : Nat.ble (2 * sz) 16777216 = true) (hc : CoL η σ [x, y] ds) (hf : sized ds sz = true) : Ylds P η σ ⟨dst, .buildSlice t 2 #[(0, x), (1, y)], ty, pos, after, gd⟩ (.d (.slice ds)) :=
  Y_lit (xs := [x, y]) he hs hz hp hb (by rfl) rfl hc (sized_spec hf).1 (sized_spec hf).2
theorem Y_lit3 (he : elemTy P t = some e) (hs : elemSize P t = some sz) (hz : (zeroOf P e).isSome = true) (hp : Nat.blt 0 sz = true) (hb : Nat.ble (3 * sz) 16777216 = true) (hc : CoL η σ [x, y, z] ds) (hf : sized ds sz = true) : Ylds P η σ ⟨dst, .buildSlice t 3 #[(0, x), (1, y), (2, z)], ty, pos, after, gd⟩ (.d (.slice ds)) :=
  Y_lit (xs := [x, y, z]) he hs hz hp hb (by rfl) rfl hc (sized_spec hf).1 (sized_spec hf).2
theorem Y_lit4 (he : elemTy P t = some e) (hs : elemSize P t = some sz) (hz : (zeroOf P e).isSome = true) (hp : Nat.blt 0 sz = true) (hb : Nat.ble (4 * sz) 16777216 = true) (hc : CoL η σ [x, y, z, u] ds) (hf : sized ds sz = true) : Ylds P η σ ⟨dst, .buildSlice t 4 #[(0, x), (1, y), (2, z), (3, u)], ty, pos, after, gd⟩ (.d (.slice ds)) :=
  Y_lit (xs := [x, y, z, u]) he hs hz hp hb (by rfl) rfl hc (sized_spec hf).1 (sized_spec hf).2

/-! ### a struct literal -/
def fillD (P : Program) (t : TypeId) : List (Nat × D) → List D → Option (List D)
  | [], cs => some cs
  | (i, d) :: r, cs => match fieldOff P t i with
    | some off => match Nat.ble (off + d.flat.length) cs.length && okc d with
      | true => fillD P t r (cs.take off ++ d.flat ++ cs.drop (off + d.flat.length))
      | false => none
    | none => none
end

section
variable {C : Ctx} {ops : Array Oper} {rest : List Oper} {K : Sl → List Ob → Prop} {σ : Sl} {η : List Ob} {d : Nat} {ty : TypeId} {pos : String} {after : Array Edge} {gd : Option (Nat × Bool)} {t : TypeId} {x y : Operand} {sz e : Nat} {ds : List D}
theorem aLit0 (he : elemTy C.P t = some e) (hs : elemSize C.P t = some sz) (hz : (zeroOf C.P e).isSome = true) (hp : Nat.blt 0 sz = true) (hd : Nat.blt d C.N = true) (hro : Nat.ble C.ro η.length = true)
    (h : alex C false ops rest K ((d, .buf η.length 0) :: σ) (η ++ [.buf false e sz []])) : astep C false ops ⟨some d, .buildSlice t 0 #[], ty, pos, after, gd⟩ rest K σ η :=
  aLit (xs := []) (ds := []) he hs hz hp (by simp) rfl CoL_nil (by simp) rfl hd hro (by rfl) h
theorem aLit1 (he : elemTy C.P t = some e) (hs : elemSize C.P t = some sz) (hz : (zeroOf C.P e).isSome = true) (hp : Nat.blt 0 sz = true) (hb : Nat.ble (1 * sz) 16777216 = true) (hd : Nat.blt d C.N = true) (hro : Nat.ble C.ro η.length = true) (hc : CoL η σ [x] ds) (hf : sized ds sz = true)
    (h : alex C false ops rest K ((d, .buf η.length ds.length) :: σ) (η ++ [.buf false e sz ds])) : astep C false ops ⟨some d, .buildSlice t 1 #[(0, x)], ty, pos, after, gd⟩ rest K σ η :=
  aLit (xs := [x]) he hs hz hp hb rfl hc (sized_spec hf).1 (sized_spec hf).2 hd hro (by rfl) h
theorem aLit2 (he : elemTy C.P t = some e) (hs : elemSize C.P t = some sz) (hz : (zeroOf C.P e).isSome = true) (hp : Nat.blt 0 sz = true) (hb : Nat.ble (2 * sz) 16777216 = true) (hd : Nat.blt d C.N = true) (hro : Nat.ble C.ro η.length = true) (hc : CoL η σ [x, y] ds) (hf : sized ds sz = true)
    (h : alex C false ops rest K ((d, .buf η.length ds.length) :: σ) (η ++ [.buf false e sz ds])) : astep C false ops ⟨some d, .buildSlice t 2 #[(0, x), (1, y)], ty, pos, after, gd⟩ rest K σ η :=
  aLit (xs := [x, y]) he hs hz hp hb rfl hc (sized_spec hf).1 (sized_spec hf).2 hd hro (by rfl) h
end
end Go.Sx
/- The engine: a struct literal; a row let be when a slot is there. -/
namespace Go.Sx
open Go.RowKit

section
variable {C : Ctx} {σ : Sl} {η : List Ob}
theorem awp_freezeW {Q : Exit → Sl → List Ob → Prop} {c : Code} (k id : Nat) {e sz : Nat} {xs : List D} (_hk : (σ.any fun p => Nat.beq p.1 k) = true) (ho : η[id]? = some (.buf true e sz xs)) (hro : Nat.ble C.ro id = true) (h : awp C c Q σ (η.set id (.buf false e sz xs))) : awp C c Q σ η :=
  awp_freeze id ho hro h
end

section
variable {P : Program} {η : List Ob} {σ : Sl} {dst : Option Nat} {ty : TypeId} {pos : String} {after : Array Edge} {gd : Option (Nat × Bool)} {t : TypeId}
theorem Y_build {ps : List (Nat × Operand)} {vs : List (Nat × Value)} {cells : List Value} (hl : ps.length = vs.length) (hx : ∀ (j : Nat) (p : Nat × Operand) (q : Nat × Value), ps[j]? = some p → vs[j]? = some q → p.1 = q.1 ∧ oval σ p.2 = .d (.val q.2)) (hb : P.built t vs = some cells.toArray) (h1 : cells.all (·.oneCell') = true) :
    Ylds P η σ ⟨dst, .build t ps.toArray, ty, pos, after, gd⟩ (.d (.agg (cells.map .val))) := by
  refine Ylds.same fun g w a hi h => ⟨.agg cells.toArray, ?_, .agg cells _ (by simp) (fun u hu => List.all_eq_true.1 h1 u hu) fun j u d hu hd => ?_⟩
  · have e : (ps.map fun p => (p.1, a.eval p.2)) = vs := by
      refine List.ext_getElem? fun j => ?_
      rw [List.getElem?_map]
      rcases Nat.lt_or_ge j ps.length with hj | hj
      · have e1 : ps[j]? = some ps[j] := List.getElem?_eq_getElem hj
        have e2 : vs[j]? = some (vs[j]'(by omega)) := List.getElem?_eq_getElem (by omega)
        obtain ⟨h2, h3⟩ := hx j _ _ e1 e2
        have hm : ps[j].2 ∈ ps.map (·.2) := List.mem_map.2 ⟨ps[j], List.getElem_mem hj, rfl⟩
        have h4 := h ps[j].2 (by simpa [Op.operands] using hm)
        rw [h3] at h4
        have h5 := RepD.val_eq h4
        rw [e1, e2, Option.map_some, h2, h5]
      · rw [List.getElem?_eq_none hj, List.getElem?_eq_none (by omega)]; rfl
    have e' : (ps.toArray.map fun (x : Nat × Operand) => (x.1, a.eval x.2)) = vs.toArray := by rw [← e]; simp
    have := run_build (P := P) w t vs.toArray cells.toArray hb
    simp only [execOp]
    rw [e']
    simp only [Sem.run_bind, Sem.run_pure, this, Result.andThen_ok]
  · rw [List.getElem?_map, hu] at hd
    injection hd with hd; subst hd; exact .val _
theorem Y_move_v {x : Operand} (hx : oval σ x = .d (.val (.slice none 0 0))) : Ylds P η σ ⟨dst, .move x, ty, pos, after, gd⟩ .nil := by
  refine Ylds.same fun g w a hi h => ⟨.slice none 0 0, ?_, rfl⟩
  have h1 := h x (by simp [Op.operands]); rw [hx] at h1
  have h2 := RepD.val_eq h1
  simp [execOp, h2]
theorem Y_build0 {cells : List Value} (hb : P.built t [] = some cells.toArray) (h1 : cells.all (·.oneCell') = true) : Ylds P η σ ⟨dst, .build t #[], ty, pos, after, gd⟩ (.d (.agg (cells.map .val))) :=
  Y_build (ps := []) rfl (by simp) hb h1
theorem Y_build1 {i : Nat} {x : Operand} {v : Value} {cells : List Value} (hx : oval σ x = .d (.val v)) (hb : P.built t [(i, v)] = some cells.toArray) (h1 : cells.all (·.oneCell') = true) : Ylds P η σ ⟨dst, .build t #[(i, x)], ty, pos, after, gd⟩ (.d (.agg (cells.map .val))) :=
  Y_build (ps := [(i, x)]) rfl (fun j p q hp hq => by
    match j, hp, hq with
    | 0, hp, hq => injection hp with hp; injection hq with hq; subst hp; subst hq; exact ⟨rfl, hx⟩
    | j + 1, hp, hq => simp at hp) hb h1
theorem Y_build4 {i1 i2 i3 i4 : Nat} {x1 x2 x3 x4 : Operand} {v1 v2 v3 v4 : Value} {cells : List Value} (hx1 : oval σ x1 = .d (.val v1)) (hx2 : oval σ x2 = .d (.val v2)) (hx3 : oval σ x3 = .d (.val v3)) (hx4 : oval σ x4 = .d (.val v4))
    (hb : P.built t [(i1, v1), (i2, v2), (i3, v3), (i4, v4)] = some cells.toArray) (h1 : cells.all (·.oneCell') = true) : Ylds P η σ ⟨dst, .build t #[(i1, x1), (i2, x2), (i3, x3), (i4, x4)], ty, pos, after, gd⟩ (.d (.agg (cells.map .val))) :=
  Y_build (ps := [(i1, x1), (i2, x2), (i3, x3), (i4, x4)]) rfl (fun j p q hp hq => by
    match j, hp, hq with
    | 0, hp, hq => injection hp with hp; injection hq with hq; subst hp; subst hq; exact ⟨rfl, hx1⟩
    | 1, hp, hq => injection hp with hp; injection hq with hq; subst hp; subst hq; exact ⟨rfl, hx2⟩
    | 2, hp, hq => injection hp with hp; injection hq with hq; subst hp; subst hq; exact ⟨rfl, hx3⟩
    | 3, hp, hq => injection hp with hp; injection hq with hq; subst hp; subst hq; exact ⟨rfl, hx4⟩
    | j + 4, hp, hq => simp at hp) hb h1
end
/-- a step of the loop is to stop here -/
@[irreducible] def Stop (p : Prop) : Prop := p
theorem Stop.go {p : Prop} (h : p) : Stop p := by unfold Stop; exact h
theorem stopCopy {C : Ctx} {ops : Array Oper} {rest : List Oper} {K : Sl → List Ob → Prop} {σ : Sl} {η : List Ob} {d : Option Nat} {ty : TypeId} {pos : String} {after : Array Edge} {gd : Option (Nat × Bool)} {x y : Operand} {ts : Array TypeId}
    (h : Stop (astep C false ops ⟨d, .call ⟨.builtin .copy, #[x, y], ts⟩, ty, pos, after, gd⟩ rest K σ η)) : astep C false ops ⟨d, .call ⟨.builtin .copy, #[x, y], ts⟩, ty, pos, after, gd⟩ rest K σ η := by
  unfold Stop at h; exact h
theorem dead_mk {C : Ctx} {ops : Array Oper} {rest : List Oper} {K : Sl → List Ob → Prop} {σ : Sl} {η : List Ob} {d : Option Nat} {ty : TypeId} {pos : String} {after : Array Edge} {gd : Option (Nat × Bool)} {t : TypeId} {x : Operand}
    (h : False) : astep C false ops ⟨d, .makeInterface t x, ty, pos, after, gd⟩ rest K σ η := h.elim
end Go.Sx
/- The engine: divisions, shifts and conversions of integers; texts. -/
namespace Go.Sx
open Go.RowKit

section
variable {P : Program} {η : List Ob} {σ : Sl} {dst : Option Nat} {ty : TypeId} {pos : String} {after : Array Edge} {gd : Option (Nat × Bool)} {t yt : TypeId} {x y : Operand}
theorem Y_quo {k : IntKind} {m n : Int} (hx : oval σ x = .d (.val (.int k m))) (hy : oval σ y = .d (.val (.int k n))) (hn : n ≠ 0) : Ylds P η σ ⟨dst, .binOp .quo t x y yt, ty, pos, after, gd⟩ (.d (.val (.int k (k.wrap (m.tdiv n))))) :=
  Y_bin hx hy fun w => by simp [eqGuard_quo, binOp_quo, Op.intDiv, hn]
theorem Y_rem {k : IntKind} {m n : Int} (hx : oval σ x = .d (.val (.int k m))) (hy : oval σ y = .d (.val (.int k n))) (hn : n ≠ 0) : Ylds P η σ ⟨dst, .binOp .rem t x y yt, ty, pos, after, gd⟩ (.d (.val (.int k (m.tmod n)))) :=
  Y_bin hx hy fun w => by simp [eqGuard_rem, binOp_rem, Op.intDiv, hn]
theorem Y_shl {k k' : IntKind} {m n : Int} (hx : oval σ x = .d (.val (.int k m))) (hy : oval σ y = .d (.val (.int k' n))) (hn : 0 ≤ n) : Ylds P η σ ⟨dst, .binOp .shl t x y yt, ty, pos, after, gd⟩ (.d (.val (.int k (k.wrap (m * 2 ^ min n.toNat k.bits))))) :=
  Y_bin hx hy fun w => by simp [eqGuard_shl, binOp, Op.shift, show ¬ n < 0 by omega]
theorem Y_shr {k k' : IntKind} {m n : Int} (hx : oval σ x = .d (.val (.int k m))) (hy : oval σ y = .d (.val (.int k' n))) (hn : 0 ≤ n) : Ylds P η σ ⟨dst, .binOp .shr t x y yt, ty, pos, after, gd⟩ (.d (.val (.int k (m.fdiv (2 ^ min n.toNat k.bits))))) :=
  Y_bin hx hy fun w => by simp [eqGuard_shr, binOp, Op.shift, show ¬ n < 0 by omega]
theorem Y_conv {k k' : IntKind} {src tdst : TypeId} {n : Int} (hx : oval σ x = .d (.val (.int k' n))) (hs : (P.underlying src).isSome = true) (hd : P.underlying tdst = some (.int k)) : Ylds P η σ ⟨dst, .convert src tdst x, ty, pos, after, gd⟩ (.d (.val (.int k (k.wrap n)))) := by
  obtain ⟨ds, hs⟩ := Option.isSome_iff_exists.1 hs
  refine Ylds.same fun g w a hi h => ⟨.int k (k.wrap n), ?_, .val _⟩
  have h1 := h x (by simp [Op.operands]); rw [hx] at h1
  simp only [execOp, convert, RepD.val_eq h1, Sem.run_bind, run_underlying hs, run_underlying hd, Result.andThen_ok]
  cases ds <;> simp [Conv.intToInt]
theorem Y_cat {a b : ByteArray} (hx : oval σ x = .d (.val (.string a))) (hy : oval σ y = .d (.val (.string b))) (hl : (a.size : Int) + b.size ≤ 9223372036854775807) : Ylds P η σ ⟨dst, .binOp .add t x y yt, ty, pos, after, gd⟩ (.d (.val (.string (a ++ b)))) :=
  Y_bin hx hy fun w => by
    have hm : ¬ ((a.size + b.size : Nat) : Int) > IntKind.i64.max := by
      have : IntKind.i64.max = 9223372036854775807 := by decide
      omega
    simp only [eqGuard_add, binOp, Op.stringOp, if_neg hm, Sem.run_bind, Sem.run_pure, Result.andThen_ok]
end
end Go.Sx
