/- The engine: loops, jumps back: what is kept from round to round; objects that nobody names any more are let go. -/
import Derived.Test.YtbegnjhfhnaagaaDoorSxK
namespace Go.Sx
open Go.RowKit

def SV.below (m : Nat) : SV → Bool
  | .ptr i _ => Nat.blt i m
  | .bptr i _ _ => Nat.blt i m
  | .buf i _ => Nat.blt i m
  | .clo _ ids => ids.all fun i => Nat.blt i m
  | _ => true
def Ob.below (m : Nat) : Ob → Bool
  | .box cs => cs.all (SV.below m)
  | _ => true
def belowσ (m : Nat) : Sl → Bool
  | [] => true
  | (_, s) :: r => s.below m && belowσ m r

theorem below_get {m : Nat} : ∀ {σ : Sl}, belowσ m σ = true → ∀ t, (get σ t).below m = true
  | [], _, _ => rfl
  | (k, s) :: r, h, t => by
    simp only [belowσ, Bool.and_eq_true] at h
    rw [get_cons]; split
    · exact h.1
    · exact below_get h.2 t

def cut (g : Gh) (m : Nat) : Gh := { g with blk := fun i => if i < m then g.blk i else none, n := m }

theorem RepS.cut {g : Gh} {w : World} {v : Value} {s : SV} {m : Nat} (_hm : m ≤ g.n) (hs : s.below m = true) (r : RepS g w v s) : RepS (cut g m) w v s := by
  have bl : ∀ {i : Nat}, Nat.blt i m = true → i < m := fun h => by simpa using h
  cases s with
  | d d => exact r
  | nil => exact r
  | ptr i off => obtain ⟨h1, b, h2, h3⟩ := r; exact ⟨bl hs, b, by simp only [Sx.cut]; rw [if_pos (bl hs)]; exact h2, h3⟩
  | rptr cs => exact r
  | bptr i j off => obtain ⟨h1, b, h2, h3⟩ := r; exact ⟨bl hs, b, by simp only [Sx.cut]; rw [if_pos (bl hs)]; exact h2, h3⟩
  | buf i n => obtain ⟨h1, h2⟩ := r; exact ⟨bl hs, by simp only [Sx.cut]; rw [if_pos (bl hs)]; exact h2⟩
  | clo f ids =>
    obtain ⟨vs, h1, h2, h3⟩ := r
    refine ⟨vs, h1, h2, fun j i u hj hu => ?_⟩
    have hi := bl (List.all_eq_true.1 hs i (List.mem_of_getElem? hj))
    obtain ⟨h4, b, h5, h6⟩ := h3 j i u hj hu
    exact ⟨hi, b, by simp only [Sx.cut]; rw [if_pos hi]; exact h5, h6⟩
  | top => trivial

theorem AbsG.cut {C : Ctx} {g : Gh} {σ : Sl} {η h : List Ob} {a : Act} {w : World} (ha : AbsG C g σ η a w) (hp : ∃ r, η = h ++ r) (hσ : belowσ h.length σ = true) (hη : h.all (Ob.below h.length) = true) : AbsG C (cut g h.length) σ h a w := by
  obtain ⟨r, rfl⟩ := hp
  have hn := ha.inv.n
  have hm : h.length ≤ g.n := by rw [hn]; simp
  have hb : ∀ i b, (Sx.cut g h.length).blk i = some b → i < h.length ∧ g.blk i = some b := by
    intro i b hb
    simp only [Sx.cut] at hb
    split at hb
    · rename_i hc; exact ⟨hc, hb⟩
    · cases hb
  refine ⟨ha.defers, ha.size, ⟨rfl, fun i b hi => ha.inv.lt i b (hb i b hi).2, fun i hi => ?_, fun i j b hi hj => ha.inv.inj i j b (hb i b hi).2 (hb j b hj).2, fun i o ho => ?_, ha.inv.st, ha.inv.gl⟩, ha.os, ha.tape, ha.output, ha.wsize, ha.heap, ha.keep, ha.new, fun i b hi hr => ha.own i b (hb i b hi).2 hr, fun t => (ha.rep t).cut hm (below_get hσ t)⟩
  · have : ¬ i < h.length := by have h0 : h.length ≤ i := hi; omega
    simp only [Sx.cut]; rw [if_neg this]
  · have hil : i < h.length := (List.getElem?_eq_some_iff.1 ho).1
    have hoo := ha.inv.ob i o (by rw [List.getElem?_append_left hil]; exact ho)
    have hbo := List.all_eq_true.1 hη o (List.mem_of_getElem? ho)
    have hblk : (Sx.cut g h.length).blk i = g.blk i := by simp only [Sx.cut]; rw [if_pos hil]
    cases o with
    | box cs =>
      obtain ⟨b, e, us, h1, h2, h3, h4, h5, h6⟩ := hoo
      exact ⟨b, e, us, by rw [hblk]; exact h1, h2, h3, h4, fun j u s hu hs => (h5 j u s hu hs).cut hm (List.all_eq_true.1 hbo s (List.mem_of_getElem? hs)), h6⟩
    | buf mu e sz xs =>
      obtain ⟨h1, h2, h3, h4, h5⟩ := hoo
      refine ⟨h1, h2, h3, h4, ?_⟩
      rw [hblk]; exact h5
    | iter s pos =>
      obtain ⟨b, h1, h2, h3⟩ := hoo
      exact ⟨b, by rw [hblk]; exact h1, h2, h3⟩
    | gone => trivial

/-- the objects h are the first of η -/
def Pre : List Ob → List Ob → Prop
  | [], _ => True
  | o :: h, o' :: η => o = o' ∧ Pre h η
  | _ :: _, [] => False

theorem Pre.ex : ∀ {h η : List Ob}, Pre h η → ∃ r, η = h ++ r
  | [], η, _ => ⟨η, rfl⟩
  | o :: h, o' :: η, ⟨e, p⟩ => by obtain ⟨r, hr⟩ := p.ex; exact ⟨r, by rw [e, hr]; rfl⟩
  | _ :: _, [], p => p.elim

theorem Pre_nil {η : List Ob} : Pre [] η := trivial
theorem Pre_cons {o o' : Ob} {h η r : List Ob} (e1 : η = o' :: r) (e2 : o = o') (p : Pre h r) : Pre (o :: h) η := by subst e1; exact ⟨e2, p⟩
theorem Pre_buf {o' : Ob} {h η r : List Ob} {mu : Bool} {e sz : Nat} {xs xs' : List D} (e1 : η = o' :: r) (e2 : o' = .buf mu e sz xs') (e3 : xs = xs') (p : Pre h r) : Pre (.buf mu e sz xs :: h) η := by subst e1; subst e2; subst e3; exact ⟨rfl, p⟩

/-- what s, h say, σ, η say too -/
def Fits (s : Sl) (h : List Ob) (σ : Sl) (η : List Ob) : Prop := Le s σ ∧ Pre h η ∧ belowσ h.length s = true ∧ h.all (Ob.below h.length) = true

theorem Fits.abs {C : Ctx} {s σ : Sl} {h η : List Ob} {a : Act} {w : World} (f : Fits s h σ η) (ha : Abs C σ η a w) : Abs C s h a w := by
  obtain ⟨g, hg⟩ := ha
  obtain ⟨f1, f2, f3, f4⟩ := f
  exact ⟨_, (hg.get_eq f1).cut f2.ex f3 f4⟩

theorem Fits_mk {s σ : Sl} {h η : List Ob} (h1 : Le s σ) (h2 : Pre h η) (h3 : belowσ h.length s = true) (h4 : h.all (Ob.below h.length) = true) : Fits s h σ η := ⟨h1, h2, h3, h4⟩

theorem Le_d {σ : Sl} {k : Nat} {d d' : D} {r : Sl} (h : get σ k = .d d') (e : d = d') (hr : Le r σ) : Le ((k, .d d) :: r) σ := by subst e; exact Le_cons h hr
theorem Le_buf {σ : Sl} {k id n n' : Nat} {r : Sl} (h : get σ k = .buf id n') (e : n = n') (hr : Le r σ) : Le ((k, .buf id n) :: r) σ := by subst e; exact Le_cons h hr

theorem awp_fit {C : Ctx} {c : Code} {Q : Exit → Sl → List Ob → Prop} {s σ : Sl} {h η : List Ob} (f : Fits s h σ η) (hw : awp C c Q s h) : awp C c Q σ η := fun R hR a w hab => hw R hR a w (f.abs hab)

theorem awp_loopF {C : Ctx} {c : Code} {Q : Exit → Sl → List Ob → Prop} {σ : Sl} {η : List Ob} {α : Type} (I : α → Prop) (s : α → Sl) (h : α → List Ob) (μ : α → Nat) (x0 : α)
    (h0 : I x0) (e0 : Fits (s x0) (h x0) σ η)
    (round : ∀ x, I x → awp C c (athen (fun σ' η' => ∃ y, I y ∧ μ y < μ x ∧ Fits (s y) (h y) σ' η') Q) (s x) (h x)) : awp C (.loop c) Q σ η := by
  refine awp_fit e0 ?_
  refine awp_loop' I s h μ x0 h0 (fun x hx => ?_)
  intro R hR a w hab
  exact round x hx R (fun e σ' η' a' w' hq hab' => by
    cases e with
    | normal => obtain ⟨y, h1, h2, h3⟩ := hq; exact hR .normal _ _ a' w' ⟨y, h1, h2, rfl, rfl⟩ (h3.abs hab')
    | _ => exact hR _ _ _ _ _ hq hab') a w hab

theorem awp_scopeF {C : Ctx} {p rest rest' : Code} {Q : Exit → Sl → List Ob → Prop} {σ : Sl} {η : List Ob} {α : Type} (l : Nat) (hf : findLabel (p.seq ((Code.label l).seq rest)) l = some rest') (hr : rest' = Code.skip.seq rest) (I : α → Prop) (s : α → Sl) (h : α → List Ob) (μ : α → Nat)
    (first : awp C p (athen (fun σ' η' => ∃ y, I y ∧ Fits (s y) (h y) σ' η') (ajump l (fun _ _ => False) Q)) σ η)
    (pass : ∀ x, I x → awp C rest (ajump l (fun σ' η' => ∃ y, I y ∧ μ y < μ x ∧ Fits (s y) (h y) σ' η') Q) (s x) (h x)) : awp C (.scope (p.seq ((Code.label l).seq rest))) Q σ η := by
  subst hr
  have conv0 : ∀ x, I x → awp C rest (ajump l (fun σ' η' => ∃ y, I y ∧ μ y < μ x ∧ s y = σ' ∧ h y = η') Q) (s x) (h x) := by
    intro x hx R hR a w hab
    exact pass x hx R (fun e σ' η' a' w' hq hab' => by
      cases e with
      | goto l' => obtain ⟨e1, y, h1, h2, h3⟩ := hq; exact hR (.goto l') _ _ a' w' ⟨e1, y, h1, h2, rfl, rfl⟩ (h3.abs hab')
      | _ => exact hR _ _ _ _ _ hq hab') a w hab
  have conv : ∀ x, I x → awp C (Code.skip.seq rest) (ajump l (fun σ' η' => ∃ y, I y ∧ μ y < μ x ∧ s y = σ' ∧ h y = η') Q) (s x) (h x) := fun x hx => awp_seq (awp_skip (conv0 x hx))
  refine awp_scope' l hf I s h μ ?_ conv
  refine awp_seq ?_
  intro R hR a w hab
  refine first R (fun e σ' η' a' w' hq hab' => ?_) a w hab
  cases e with
  | normal =>
    obtain ⟨y, h1, h2⟩ := hq
    refine hR .normal (s y) (h y) a' w' ?_ (h2.abs hab')
    refine awp_seq (awp_label ?_)
    intro R2 hR2 a2 w2 hab2
    refine conv0 y h1 R2 (fun e σ' η' a' w' hq hab' => ?_) a2 w2 hab2
    cases e with
    | goto l' => obtain ⟨e1, z, z1, z2, z3, z4⟩ := hq; exact hR2 (.goto l') _ _ a' w' ⟨e1, z, z1, z3, z4⟩ hab'
    | _ => exact hR2 _ _ _ _ _ hq hab'
  | goto l' => exact hq.2.elim
  | _ => exact hR _ _ _ _ _ hq hab'

/-- the same, the label two steps in -/
theorem awp_scopeF2 {C : Ctx} {p q rest rest' : Code} {Q : Exit → Sl → List Ob → Prop} {σ : Sl} {η : List Ob} {α : Type} (l : Nat) (hf : findLabel (p.seq (q.seq ((Code.label l).seq rest))) l = some rest') (hr : rest' = Code.skip.seq rest) (I : α → Prop) (s : α → Sl) (h : α → List Ob) (μ : α → Nat)
    (first : awp C p (athen (awp C q (athen (fun σ' η' => ∃ y, I y ∧ Fits (s y) (h y) σ' η') (ajump l (fun _ _ => False) Q))) (ajump l (fun _ _ => False) Q)) σ η)
    (pass : ∀ x, I x → awp C rest (ajump l (fun σ' η' => ∃ y, I y ∧ μ y < μ x ∧ Fits (s y) (h y) σ' η') Q) (s x) (h x)) : awp C (.scope (p.seq (q.seq ((Code.label l).seq rest)))) Q σ η := by
  subst hr
  have conv0 : ∀ x, I x → awp C rest (ajump l (fun σ' η' => ∃ y, I y ∧ μ y < μ x ∧ s y = σ' ∧ h y = η') Q) (s x) (h x) := by
    intro x hx R hR a w hab
    exact pass x hx R (fun e σ' η' a' w' hq hab' => by
      cases e with
      | goto l' => obtain ⟨e1, y, h1, h2, h3⟩ := hq; exact hR (.goto l') _ _ a' w' ⟨e1, y, h1, h2, rfl, rfl⟩ (h3.abs hab')
      | _ => exact hR _ _ _ _ _ hq hab') a w hab
  have conv : ∀ x, I x → awp C (Code.skip.seq rest) (ajump l (fun σ' η' => ∃ y, I y ∧ μ y < μ x ∧ s y = σ' ∧ h y = η') Q) (s x) (h x) := fun x hx => awp_seq (awp_skip (conv0 x hx))
  refine awp_scope' l hf I s h μ ?_ conv
  refine awp_seq ?_
  intro R hR a w hab
  refine first R (fun e σ' η' a' w' hq hab' => ?_) a w hab
  cases e with
  | normal =>
    refine hR .normal σ' η' a' w' ?_ hab'
    refine awp_seq ?_
    intro R3 hR3 a3 w3 hab3
    refine hq R3 (fun e σ' η' a' w' hq hab' => ?_) a3 w3 hab3
    cases e with
    | normal =>
      obtain ⟨y, h1, h2⟩ := hq
      refine hR3 .normal (s y) (h y) a' w' ?_ (h2.abs hab')
      refine awp_seq (awp_label ?_)
      intro R2 hR2 a2 w2 hab2
      refine conv0 y h1 R2 (fun e σ' η' a' w' hq hab' => ?_) a2 w2 hab2
      cases e with
      | goto l' => obtain ⟨e1, z, z1, z2, z3, z4⟩ := hq; exact hR2 (.goto l') _ _ a' w' ⟨e1, z, z1, z3, z4⟩ hab'
      | _ => exact hR2 _ _ _ _ _ hq hab'
    | goto l' => exact hq.2.elim
    | _ => exact hR3 _ _ _ _ _ hq hab'
  | goto l' => exact hq.2.elim
  | _ => exact hR _ _ _ _ _ hq hab'

end Go.Sx
