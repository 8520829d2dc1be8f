/- An engine of this claim's own: abstract values, what they say of memory, and how that is kept. Nothing here speaks of one program. -/
import Derived.WalkKit
import Derived.Below
import Derived.ScopeJumps
import Derived.Still
import Derived.Maps.AppendAt
import Derived.Deep.Slices
import Derived.Lib.ItoaNum
namespace Go.Sx

/-- pure data: what a value reads as; lists are what memory holds, and stay -/
inductive D where
  | val (v : Value)
  | agg (cs : List D)
  | slice (xs : List D)
  | tup (ds : List D)
  deriving Inhabited

/-- the cells of a datum -/
def D.flat : D → List D
  | .agg cs => cs
  | d => [d]

def flats (xs : List D) : List D := xs.flatMap D.flat

/-- what memory is stable -/
abbrev Stab := Nat → Nat → Prop

def Cell (St : Stab) (w : World) (ad : Addr) (j : Nat) (u : Value) : Prop := St ad.block (ad.off + j) ∧ w.cell? (ad.add j) = some u

inductive RepD (St : Stab) (w : World) : Value → D → Prop
  | val (v : Value) : RepD St w v (.val v)
  | agg (vs : List Value) (cs : List D) (hl : vs.length = cs.length) (h1 : ∀ u ∈ vs, u.oneCell' = true)
      (h : ∀ (j : Nat) (u : Value) (d : D), vs[j]? = some u → cs[j]? = some d → RepD St w u d) : RepD St w (.agg vs.toArray) (.agg cs)
  | tup (vs : List Value) (cs : List D) (hl : vs.length = cs.length)
      (h : ∀ (j : Nat) (u : Value) (d : D), vs[j]? = some u → cs[j]? = some d → RepD St w u d) : RepD St w (.tuple vs.toArray) (.tup cs)
  | slice (a : Option Addr) (len cap sz : Nat) (xs : List D) (us : List Value)
      (hlen : len = xs.length) (hcap : len ≤ cap) (hm : cap ≤ maxLen)
      (hsz : ∀ x ∈ xs, x.flat.length = sz)
      (hus : us.length = (flats xs).length) (h1 : ∀ u ∈ us, u.oneCell' = true)
      (hcell : 0 < xs.length → ∃ ad, a = some ad ∧ ∀ (j : Nat) (u : Value), us[j]? = some u → Cell St w ad j u)
      (h : ∀ (j : Nat) (u : Value) (d : D), us[j]? = some u → (flats xs)[j]? = some d → RepD St w u d) : RepD St w (.slice a len cap) (.slice xs)

/-- the stable cells stay, and more may come -/
structure Keep (St : Stab) (w : World) (St' : Stab) (w' : World) : Prop where
  sub : ∀ b o, St b o → St' b o
  cell : ∀ b o u, St b o → w.cell? ⟨b, o, none⟩ = some u → w'.cell? ⟨b, o, none⟩ = some u
  blk : ∀ b, (∀ o, St b o) → w'.heap[b]? = w.heap[b]?

theorem Keep.refl (St : Stab) (w : World) : Keep St w St w := ⟨fun _ _ h => h, fun _ _ _ _ h => h, fun _ _ => rfl⟩
theorem Keep.trans {A B C : Stab} {a b c : World} (h : Keep A a B b) (k : Keep B b C c) : Keep A a C c :=
  ⟨fun _x _o hx => k.sub _ _ (h.sub _ _ hx), fun _x _o _u hx hu => k.cell _ _ _ (h.sub _ _ hx) (h.cell _ _ _ hx hu), fun b hb => (k.blk b fun o => h.sub b o (hb o)).trans (h.blk b hb)⟩

theorem cell_spot {w : World} {a : Addr} {u : Value} (h : w.cell? a = some u) : a.spot = none := by
  unfold World.cell? at h
  split at h
  · split at h
    · cases h
    · rename_i hs; simpa using hs
  · cases h

theorem cell_addr {w : World} {ad : Addr} {j : Nat} {u : Value} (h : w.cell? (ad.add j) = some u) : ad.add j = ⟨ad.block, ad.off + j, none⟩ := by
  have hs := cell_spot h
  unfold Addr.add at hs ⊢
  split at hs
  · rename_i h0; subst h0; cases ad; simp at hs ⊢; exact hs
  · rename_i h0; simp [h0]

theorem Cell.keep {St St' : Stab} {w w' : World} {ad : Addr} {j : Nat} {u : Value} (k : Keep St w St' w') (h : Cell St w ad j u) : Cell St' w' ad j u := by
  refine ⟨k.sub _ _ h.1, ?_⟩
  have e := cell_addr h.2
  have h2 := h.2
  rw [e] at h2 ⊢
  exact k.cell _ _ _ h.1 h2

theorem RepD.keep {St St' : Stab} {w w' : World} {v : Value} {d : D} (k : Keep St w St' w') (h : RepD St w v d) : RepD St' w' v d := by
  induction h with
  | val v => exact .val v
  | agg vs cs hl h1 _ ih => exact .agg vs cs hl h1 ih
  | tup vs cs hl _ ih => exact .tup vs cs hl ih
  | slice a len cap sz xs us hlen hcap hm hsz hus h1 hcell _ ih =>
    refine .slice a len cap sz xs us hlen hcap hm hsz hus h1 (fun h0 => ?_) ih
    obtain ⟨ad, ha, hc⟩ := hcell h0
    exact ⟨ad, ha, fun j u hu => (hc j u hu).keep k⟩

theorem RepD.val_eq {St : Stab} {w : World} {v u : Value} (h : RepD St w v (.val u)) : v = u := by cases h; rfl

/-! ### What lies in memory from the beginning (tables of variables) -/
/-- the tables of the program's variables lie in memory as start-up code laid them, and stay -/
def Glob (St : Stab) (w : World) : Prop :=
  (∀ k, k < 6 → ∀ o, St k o) ∧ (∃ (m : Int) (e : TypeId) (t : Nat × Nat), w.heap[0]? = some (.cells #[.int .i64 m] e t)) ∧
  ∃ (e : TypeId) (t : Nat × Nat), w.heap[3]? = some (.cells (Lib.pow10Tab.map fun z => Value.int .u64 z).toArray e t)
theorem Glob.keep {St St' : Stab} {w w' : World} (h : Glob St w) (k : Keep St w St' w') : Glob St' w' := by
  obtain ⟨h1, ⟨m, e, t, h2⟩, e3, t3, h3⟩ := h
  exact ⟨fun i hi o => k.sub _ _ (h1 i hi o), ⟨m, e, t, (k.blk 0 (h1 0 (by omega))).trans h2⟩, e3, t3, (k.blk 3 (h1 3 (by omega))).trans h3⟩
/-! ### What a slot holds, and objects of the call's own -/

inductive SV where
  | d (d : D)
  | nil
  | ptr (id off : Nat)
  | rptr (cs : List D)
  | bptr (id i off : Nat)
  | buf (id n : Nat)
  | clo (f : FuncId) (ids : List Nat)
  | top
  deriving Inhabited

inductive Ob where
  | box (cs : List SV)
  | buf (mu : Bool) (e : TypeId) (sz : Nat) (xs : List D)
  | iter (s : ByteArray) (pos : Nat)
  | gone
  deriving Inhabited

structure Gh where
  St : Stab
  blk : Nat → Option Nat
  cap : Nat → Nat
  sz : Nat → Nat
  n : Nat

def RepS (g : Gh) (w : World) (v : Value) : SV → Prop
  | .d d => RepD g.St w v d
  | .nil => v = .slice none 0 0
  | .ptr id off => id < g.n ∧ ∃ b, g.blk id = some b ∧ v = .pointer (some ⟨b, off, none⟩)
  | .rptr cs => ∃ (ad : Addr) (us : List Value), v = .pointer (some ad) ∧ us.length = cs.length ∧ (∀ u ∈ us, u.oneCell' = true) ∧
      (∀ (j : Nat) (u : Value), us[j]? = some u → Cell g.St w ad j u) ∧ ∀ (j : Nat) (u : Value) (d : D), us[j]? = some u → cs[j]? = some d → RepD g.St w u d
  | .bptr id i off => id < g.n ∧ ∃ b, g.blk id = some b ∧ v = .pointer (some ⟨b, i * g.sz id + off, none⟩)
  | .buf id n => id < g.n ∧ v = .slice ((g.blk id).map (⟨·, 0, none⟩)) n (g.cap id)
  | .clo f ids => ∃ vs : List Value, v = .func (.func f) #[] vs.toArray ∧ vs.length = ids.length ∧
      ∀ (j id : Nat) (u : Value), ids[j]? = some id → vs[j]? = some u → id < g.n ∧ ∃ b, g.blk id = some b ∧ u = .pointer (some ⟨b, 0, none⟩)
  | .top => True

/-- an object, as memory has it -/
def ObOk (g : Gh) (w : World) (id : Nat) : Ob → Prop
  | .box cs => ∃ b e us, g.blk id = some b ∧ w.heap[b]? = some (.cells us e (0, 0)) ∧ us.size = cs.length ∧ (∀ u ∈ us, u.oneCell' = true) ∧
      (∀ (j : Nat) (u : Value) (s : SV), us[j]? = some u → cs[j]? = some s → RepS g w u s) ∧ ∀ o, ¬ g.St b o
  | .buf mu e sz xs => g.sz id = sz ∧ (∀ x ∈ xs, x.flat.length = sz) ∧ g.cap id ≤ maxLen ∧ xs.length ≤ g.cap id ∧
      ((g.blk id = none ∧ g.cap id = 0) ∨
       ∃ b us, g.blk id = some b ∧ w.heap[b]? = some (.cells us e (0, 0)) ∧ us.size = g.cap id * sz ∧
        (∀ (j : Nat) (u : Value), j < xs.length * sz → us[j]? = some u → u.oneCell' = true) ∧
        (∀ (j : Nat) (u : Value) (d : D), us[j]? = some u → (flats xs)[j]? = some d → RepD g.St w u d) ∧
        (∀ o, g.St b o ↔ (mu = false ∧ o < xs.length * sz)))
  | .iter s pos => ∃ b, g.blk id = some b ∧ w.heap[b]? = some (.stringIter s pos) ∧ ∀ o, ¬ g.St b o
  | .gone => True

structure Inv (g : Gh) (w : World) (η : List Ob) : Prop where
  n : g.n = η.length
  lt : ∀ id b, g.blk id = some b → b < w.heap.size
  dead : ∀ id, g.n ≤ id → g.blk id = none
  inj : ∀ i j b, g.blk i = some b → g.blk j = some b → i = j
  ob : ∀ id o, η[id]? = some o → ObOk g w id o
  st : ∀ b o, g.St b o → b < w.heap.size
  gl : Glob g.St w

/-- memory grows: what was there is as it was -/
structure Grow (g : Gh) (w : World) (g' : Gh) (w' : World) : Prop where
  blk : g'.blk = g.blk
  cap : g'.cap = g.cap
  sz : g'.sz = g.sz
  n : g'.n = g.n
  os : w'.os = w.os
  tape : w'.tape = w.tape
  output : w'.output = w.output
  size : w.heap.size ≤ w'.heap.size
  heap : ∀ k, k < w.heap.size → w'.heap[k]? = w.heap[k]?
  sub : ∀ b o, g.St b o → g'.St b o
  new : ∀ b o, g'.St b o → g.St b o ∨ w.heap.size ≤ b
  lt : ∀ b o, g'.St b o → b < w'.heap.size

theorem Grow.refl {g : Gh} {w : World} (h : ∀ b o, g.St b o → b < w.heap.size) : Grow g w g w := ⟨rfl, rfl, rfl, rfl, rfl, rfl, rfl, Nat.le_refl _, fun _ _ => rfl, fun _ _ h => h, fun _ _ h => .inl h, h⟩

theorem Grow.trans {g g1 g2 : Gh} {w w1 w2 : World} (h : Grow g w g1 w1) (k : Grow g1 w1 g2 w2) : Grow g w g2 w2 :=
  ⟨k.blk.trans h.blk, k.cap.trans h.cap, k.sz.trans h.sz, k.n.trans h.n, k.os.trans h.os, k.tape.trans h.tape, k.output.trans h.output, Nat.le_trans h.size k.size,
    fun i hi => (k.heap i (Nat.lt_of_lt_of_le hi h.size)).trans (h.heap i hi), fun b o hb => k.sub _ _ (h.sub _ _ hb),
    fun b o hb => by
      rcases k.new b o hb with h1 | h1
      · exact h.new b o h1
      · exact .inr (Nat.le_trans h.size h1), k.lt⟩

theorem Grow.keep {g g' : Gh} {w w' : World} (h : Grow g w g' w') (hst : ∀ b o, g.St b o → b < w.heap.size) : Keep g.St w g'.St w' :=
  ⟨h.sub, fun b o _u hb hu => (World.cell?_of_block (a := ⟨b, o, none⟩) (h.heap b (hst b o hb))).trans hu, fun b hb => h.heap b (hst b 0 (hb 0))⟩

theorem RepS.change {g g' : Gh} {w w' : World} {v : Value} {s : SV} (k : Keep g.St w g'.St w') (hb : g'.blk = g.blk) (hc : g'.cap = g.cap) (hs : g'.sz = g.sz) (hn : g'.n = g.n) (r : RepS g w v s) : RepS g' w' v s := by
  cases s with
  | d d => exact RepD.keep k r
  | nil => exact r
  | ptr id off => unfold RepS at *; rw [hn, hb]; exact r
  | rptr cs =>
    obtain ⟨ad, us, h1, h2, h3, h4, h5⟩ := r
    exact ⟨ad, us, h1, h2, h3, fun j u hu => (h4 j u hu).keep k, fun j u d hu hd => (h5 j u d hu hd).keep k⟩
  | bptr id i off => unfold RepS at *; rw [hn, hb, hs]; exact r
  | buf id n => unfold RepS at *; rw [hn, hb, hc]; exact r
  | clo f ids => unfold RepS at *; rw [hn, hb]; exact r
  | top => trivial

theorem RepS.grow {g g' : Gh} {w w' : World} {v : Value} {s : SV} (hst : ∀ b o, g.St b o → b < w.heap.size) (h : Grow g w g' w') (r : RepS g w v s) : RepS g' w' v s :=
  r.change (h.keep hst) h.blk h.cap h.sz h.n

theorem Inv.grow {g g' : Gh} {w w' : World} {η : List Ob} (i : Inv g w η) (h : Grow g w g' w') : Inv g' w' η where
  n := h.n.trans i.n
  lt id b hb := by rw [h.blk] at hb; exact Nat.lt_of_lt_of_le (i.lt id b hb) h.size
  dead id hid := by rw [h.blk]; exact i.dead id (by rw [← h.n]; exact hid)
  inj a b c ha hb := by rw [h.blk] at ha hb; exact i.inj a b c ha hb
  st := h.lt
  gl := i.gl.keep (h.keep i.st)
  ob id o ho := by
    have := i.ob id o ho
    have kp := h.keep i.st
    cases o with
    | box cs =>
      obtain ⟨b, e, us, h1, h2, h3, h4, h5, h6⟩ := this
      refine ⟨b, e, us, by rw [h.blk]; exact h1, (h.heap b (i.lt id b h1)).trans h2, h3, h4, fun j u s hu hs => (h5 j u s hu hs).grow i.st h, fun o ho => ?_⟩
      rcases h.new b o ho with h7 | h7
      · exact h6 o h7
      · exact absurd (i.lt id b h1) (by omega)
    | buf mu e sz xs =>
      obtain ⟨h1, h2, h3, h4, h5⟩ := this
      refine ⟨by rw [h.sz]; exact h1, h2, by rw [h.cap]; exact h3, by rw [h.cap]; exact h4, ?_⟩
      rcases h5 with h5 | ⟨b, us, h5, h6, h7, h8, h9, h10⟩
      · exact .inl (by rw [h.blk, h.cap]; exact h5)
      · refine .inr ⟨b, us, by rw [h.blk]; exact h5, (h.heap b (i.lt id b h5)).trans h6, by rw [h.cap]; exact h7, h8, fun j u d hu hd => (h9 j u d hu hd).keep kp, fun o => ⟨fun ho => ?_, fun ho => h.sub _ _ ((h10 o).2 ho)⟩⟩
        rcases h.new b o ho with h11 | h11
        · exact (h10 o).1 h11
        · exact absurd (i.lt id b h5) (by omega)
    | iter s pos =>
      obtain ⟨b, h1, h2, h3⟩ := this
      refine ⟨b, by rw [h.blk]; exact h1, (h.heap b (i.lt id b h1)).trans h2, fun o ho => ?_⟩
      rcases h.new b o ho with h7 | h7
      · exact h3 o h7
      · exact absurd (i.lt id b h1) (by omega)
    | gone => trivial

end Go.Sx
