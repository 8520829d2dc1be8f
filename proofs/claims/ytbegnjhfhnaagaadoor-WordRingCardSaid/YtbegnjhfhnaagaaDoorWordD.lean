/- The word statements: the number of a text, plainly. -/
import Derived.Test.YtbegnjhfhnaagaaDoorWordC
namespace Go.Proofs.YtbegnjhfhnaagaaDoor
open Go.Sx

def isDig (c : UInt8) : Bool := decide (48 ≤ c.toNat) && decide (c.toNat ≤ 57)
def dvl (l : List UInt8) : Nat := l.foldl (fun m c => 10 * m + (c.toNat - 48)) 0
theorem dvl_snoc (l : List UInt8) (c : UInt8) : dvl (l ++ [c]) = 10 * dvl l + (c.toNat - 48) := by
  unfold dvl; rw [List.foldl_append]; rfl
theorem dvl_take {l : List UInt8} {i : Nat} (h : i < l.length) : dvl (l.take (i + 1)) = 10 * dvl (l.take i) + ((l.getD i 0).toNat - 48) := by
  rw [List.take_add_one, List.getElem?_eq_getElem h, Option.toList_some, dvl_snoc, List.getD_eq_getElem?_getD, List.getElem?_eq_getElem h]; rfl
theorem fold_le (l : List UInt8) : ∀ m : Nat, m ≤ l.foldl (fun m c => 10 * m + (c.toNat - 48)) m := by
  induction l with
  | nil => intro m; exact Nat.le_refl _
  | cons c l ih => intro m; exact Nat.le_trans (by omega) (ih (10 * m + (c.toNat - 48)))
theorem dvl_more {l : List UInt8} {i : Nat} (h : i < l.length) : 10 * dvl (l.take i) ≤ dvl l := by
  have e : dvl l = (l.drop (i + 1)).foldl (fun m c => 10 * m + (c.toNat - 48)) (dvl (l.take (i + 1))) := by
    conv => lhs; rw [← List.take_append_drop (i + 1) l]
    unfold dvl; rw [List.foldl_append]
  have h1 := fold_le (l.drop (i + 1)) (dvl (l.take (i + 1)))
  rw [← e, dvl_take h] at h1
  omega
theorem dvl_lt : ∀ (n : Nat) (l : List UInt8), l.length = n → l.all isDig = true → dvl l < 10 ^ n := by
  intro n
  induction n with
  | zero => intro l h _; rw [List.eq_nil_of_length_eq_zero h]; decide
  | succ n ih =>
    intro l h ha
    have hne : l ≠ [] := by intro e; rw [e] at h; cases h
    have e := List.dropLast_concat_getLast hne
    have hall : (l.dropLast ++ [l.getLast hne]).all isDig = true := by rw [e]; exact ha
    rw [List.all_append, Bool.and_eq_true] at hall
    have h1 := ih l.dropLast (by rw [List.length_dropLast]; omega) hall.1
    have h2 : isDig (l.getLast hne) = true := by simpa using hall.2
    simp only [isDig, Bool.and_eq_true, decide_eq_true_eq] at h2
    rw [← e, dvl_snoc, Nat.pow_succ]
    omega
theorem digs_all (u : Nat) : (Lib.decDigits u).all isDig = true := List.all_eq_true.2 fun c hc => by
  have := digs_mem u c hc
  simp [isDig, this.1, this.2]
theorem digs_dvl (u : Nat) : dvl (Lib.decDigits u) = u := by
  induction u using Nat.strongRecOn with
  | _ u ih =>
    rw [Lib.decDigits]
    split
    · rename_i h
      show dvl ([] ++ [_]) = _
      rw [dvl_snoc, digit_ofNat h]; simp [dvl]
    · rename_i h
      rw [dvl_snoc, ih (u / 10) (by omega), digit_ofNat (Nat.mod_lt _ (by decide))]
      omega

/-- the digits of a text; its number -/
def dg (s : List UInt8) : List UInt8 := Lib.trimPrefix s [126]
def rdS (s : List UInt8) : Int := if Lib.hasPrefix s [126] then -(dvl (dg s) : Int) else (dvl (dg s) : Int)
def rdOk (s : List UInt8) : Bool := (dg s).all isDig && decide (-4611686018427387904 ≤ rdS s) && decide (rdS s ≤ 4611686018427387903) && decide (shw (rdS s) = s)
def rdN (s : List UInt8) : Int := if rdOk s then rdS s else 0
def rdE (s : List UInt8) : Int := if rdOk s then 0 else 11

theorem pre_cons (l : List UInt8) : Lib.hasPrefix (126 :: l) [126] = true := by simp [Lib.hasPrefix, List.isPrefixOf]
theorem dg_cons (l : List UInt8) : dg (126 :: l) = l := by rw [dg, Lib.trimPrefix, if_pos (pre_cons l)]; rfl
theorem pre_digs (u : Nat) : Lib.hasPrefix (Lib.decDigits u) [126] = false := by
  obtain ⟨c, r, h, h1, h2⟩ := digs_cons u
  rw [h, Lib.hasPrefix, List.isPrefixOf]
  have : (126 == c) = false := by
    rw [beq_eq_false_iff_ne]; rintro rfl; exact absurd h2 (by decide)
  rw [this]; rfl
theorem dg_digs (u : Nat) : dg (Lib.decDigits u) = Lib.decDigits u := by rw [dg, Lib.trimPrefix, pre_digs]; rfl

theorem rd_shw (n : Int) (h : -4611686018427387904 ≤ n ∧ n ≤ 4611686018427387903) : rdOk (shw n) = true ∧ rdS (shw n) = n := by
  have e : rdS (shw n) = n ∧ (dg (shw n)).all isDig = true := by
    unfold shw rdS
    split
    · rename_i h0
      rw [pre_cons, dg_cons, if_pos rfl, digs_dvl]
      exact ⟨by omega, digs_all _⟩
    · rename_i h0
      rw [pre_digs, dg_digs, if_neg (by decide), digs_dvl]
      exact ⟨by omega, digs_all _⟩
  refine ⟨?_, e.1⟩
  rw [rdOk, e.1, e.2, decide_eq_true h.1, decide_eq_true h.2]; simp

/-- too many digits -/
theorem rd_long {s : List UInt8} (h : rdOk s = true) : (dg s).length ≤ 19 ∧ dg s ≠ [] := by
  simp only [rdOk, Bool.and_eq_true, decide_eq_true_eq] at h
  obtain ⟨⟨⟨_, h1⟩, h2⟩, h3⟩ := h
  have hd : dg s = Lib.decDigits (rdS s).natAbs := by
    conv => lhs; rw [← h3]
    unfold shw
    split
    · rw [dg_cons]
    · rw [dg_digs]
  rw [hd]
  refine ⟨?_, digs_ne _⟩
  rw [Lib.decDigits_length]
  have h4 : (rdS s).natAbs ≤ 4611686018427387904 := by omega
  rcases Nat.lt_or_ge (rdS s).natAbs (10 ^ 18) with h5 | h5
  · rcases Nat.lt_or_ge (Lib.nDigits (rdS s).natAbs) 20 with h6 | h6
    · omega
    · exfalso
      have := Lib.nDigits_le20 (rdS s).natAbs (by omega)
      have h7 : Lib.nDigits (rdS s).natAbs = 20 := by omega
      have hp : ∀ k u : Nat, u < 10 ^ (k + 1) → Lib.nDigits u ≤ k + 1 := by
        intro k
        induction k with
        | zero => intro u hu; rw [Lib.nDigits_small (by omega)]; exact Nat.le_refl _
        | succ k ih =>
          intro u hu
          by_cases h10 : u < 10
          · rw [Lib.nDigits_small h10]; omega
          · rw [Lib.nDigits_big h10]
            have := ih (u / 10) (by rw [Nat.pow_succ] at hu; omega)
            omega
      have := hp 17 _ h5
      omega
  · rw [Lib.nDigits_unique 18 _ h5 (by have : (10 : Nat) ^ (18 + 1) = 10000000000000000000 := by decide
                                       rw [this]; omega)]
    exact Nat.le_refl _
end Go.Proofs.YtbegnjhfhnaagaaDoor
