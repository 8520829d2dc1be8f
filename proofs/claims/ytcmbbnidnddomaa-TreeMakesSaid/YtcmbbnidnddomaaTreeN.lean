/- The tree statements, in plain words: how many nodes trees take; what is put in a tree's place. -/
import Derived.Test.YtcmbbnidnddomaaTreeH
namespace Go.Proofs.Ytcmbbnidnddomaa

/-! ### how many nodes o trees take -/
def cns : List Nd → Nat → Option Nat
  | _, 0 => some 0
  | [], _ + 1 => none
  | x :: r, o + 1 => if x.kids < 0 then none else (cns r (o + x.kids.toNat)).map (· + 1)

theorem cns_zero (l : List Nd) : cns l 0 = some 0 := by cases l <;> rfl
theorem cns_cons (x : Nd) (r : List Nd) (o : Nat) : cns (x :: r) (o + 1) = if x.kids < 0 then none else (cns r (o + x.kids.toNat)).map (· + 1) := rfl

theorem cns_le : ∀ {l : List Nd} {o k : Nat}, cns l o = some k → k ≤ l.length
  | l, 0, k, h => by rw [cns_zero] at h; injection h with h; omega
  | [], o + 1, k, h => by cases h
  | x :: r, o + 1, k, h => by
    rw [cns_cons] at h
    split at h
    · cases h
    · cases hc : cns r (o + x.kids.toNat) with
      | none => rw [hc] at h; cases h
      | some j => rw [hc] at h; have := cns_le hc; simp at h; simp; omega

/-- the open trees are at most the nodes -/
theorem cns_open : ∀ {l : List Nd} {o k : Nat}, cns l o = some k → o ≤ k
  | l, 0, k, h => by omega
  | [], o + 1, k, h => by cases h
  | x :: r, o + 1, k, h => by
    rw [cns_cons] at h
    split at h
    · cases h
    · cases hc : cns r (o + x.kids.toNat) with
      | none => rw [hc] at h; cases h
      | some j => rw [hc] at h; have := cns_open hc; simp at h; omega

theorem cns_append : ∀ {l : List Nd} {o k : Nat} (m : List Nd), cns l o = some k → cns (l ++ m) o = some k
  | l, 0, k, m, h => by rw [cns_zero] at h ⊢; exact h
  | [], o + 1, k, m, h => by cases h
  | x :: r, o + 1, k, m, h => by
    rw [List.cons_append, cns_cons] at *
    split at h
    · cases h
    · rename_i h0
      rw [if_neg h0]
      cases hc : cns r (o + x.kids.toNat) with
      | none => rw [hc] at h; cases h
      | some j => rw [hc] at h; rw [cns_append m hc]; exact h

theorem cns_take : ∀ {l : List Nd} {o k : Nat}, cns l o = some k → cns (l.take k) o = some k
  | l, 0, k, h => by rw [cns_zero] at h ⊢; exact h
  | [], o + 1, k, h => by cases h
  | x :: r, o + 1, k, h => by
    rw [cns_cons] at h
    split at h
    · cases h
    · rename_i h0
      cases hc : cns r (o + x.kids.toNat) with
      | none => rw [hc] at h; cases h
      | some j =>
        rw [hc] at h; simp at h; subst h
        rw [List.take_succ_cons, cns_cons, if_neg h0, cns_take hc]; rfl

theorem cns_add : ∀ (l : List Nd) (a b : Nat), cns l (a + b) = (cns l a).bind fun k => (cns (l.drop k) b).map (· + k)
  | l, 0, b => by rw [cns_zero]; simp
  | [], a + 1, b => by rw [show a + 1 + b = a + b + 1 by omega]; rfl
  | x :: r, a + 1, b => by
    rw [show a + 1 + b = a + b + 1 by omega, cns_cons, cns_cons]
    split
    · rfl
    · rw [show a + b + x.kids.toNat = a + x.kids.toNat + b by omega, cns_add r (a + x.kids.toNat) b]
      cases cns r (a + x.kids.toNat) with
      | none => rfl
      | some j =>
        simp only [Option.bind_some, Option.map_some, List.drop_succ_cons, Option.map_map]
        congr 1

theorem endGo_cns (n : Nat) : ∀ (l : List Nd) (o : Nat) (a : Int), l.length ≤ n → endGo n l ((o : Int) + 1) a = match cns l (o + 1) with
    | some k => a + k
    | none => -1
  | [], o, a, _ => rfl
  | x :: r, o, a, hn => by
    simp only [List.length_cons] at hn
    rw [cns_cons]
    unfold endGo
    by_cases h0 : x.kids < 0
    · rw [if_pos (.inl h0), if_pos h0]
    · rw [if_neg h0]
      by_cases h1 : x.kids > n
      · rw [if_pos (.inr h1)]
        cases hc : cns r (o + x.kids.toNat) with
        | none => rfl
        | some j => have := cns_open hc; have := cns_le hc; omega
      · rw [if_neg (by omega)]
        by_cases h2 : (o : Int) + 1 + (x.kids - 1) > 0
        · rw [if_pos h2]
          obtain ⟨q, hq⟩ : ∃ q : Nat, o + x.kids.toNat = q + 1 := ⟨o + x.kids.toNat - 1, by omega⟩
          rw [hq, show (o : Int) + 1 + (x.kids - 1) = (q : Int) + 1 by omega, endGo_cns n r q (a + 1) (by omega)]
          cases cns r (q + 1) with
          | none => rfl
          | some k => show a + 1 + (k : Int) = a + ((k + 1 : Nat) : Int); omega
        · rw [if_neg h2, show o + x.kids.toNat = 0 by omega, cns_zero]; simp

theorem endF_cns (L : List Nd) (a : Nat) : endF L (a : Int) = match cns (L.drop a) 1 with
    | some k => (a : Int) + k
    | none => -1 := by
  rw [endF, if_neg (by omega), Int.toNat_natCast]
  have := endGo_cns L.length (L.drop a) 0 a (by rw [List.length_drop]; omega)
  simpa using this

theorem whole_cns (L : List Nd) : wholeF L = true ↔ cns L 1 = some L.length := by
  have h := endF_cns L 0
  simp only [List.drop_zero] at h
  rw [wholeF, show (0 : Int) = ((0 : Nat) : Int) from rfl, h]
  cases hc : cns L 1 with
  | none => simp
  | some k =>
    have := cns_open hc
    have := cns_le hc
    simp; omega

theorem endF_some {L : List Nd} {a : Int} (h : ¬ endF L a < 0) : ∃ (n k : Nat), a = n ∧ cns (L.drop n) 1 = some k ∧ endF L a = n + k := by
  by_cases h0 : a < 0
  · rw [endF, if_pos h0] at h; omega
  · obtain ⟨n, rfl⟩ := Int.eq_ofNat_of_zero_le (show 0 ≤ a by omega)
    have h1 := endF_cns L n
    cases hc : cns (L.drop n) 1 with
    | none => rw [hc] at h1; simp only at h1; omega
    | some k => rw [hc] at h1; exact ⟨n, k, rfl, hc, h1⟩

theorem endF_of {L : List Nd} {n k : Nat} (h : cns (L.drop n) 1 = some k) : endF L (n : Int) = n + k := by rw [endF_cns, h]

theorem subF_of {L : List Nd} {n k : Nat} (h : cns (L.drop n) 1 = some k) : subF L (n : Int) = (L.drop n).take k := by
  rw [subF, endF_of h, if_neg (by omega), show ((n : Int) + k).toNat = n + k by omega, Int.toNat_natCast, List.drop_take]
  congr 1; omega

/-! ### what is put in a tree's place -/
theorem cns_swap {S B R : List Nd} (hs : cns S 1 = some S.length) (hb : cns B 1 = some B.length) : ∀ (T : List Nd) (o : Nat), cns (T ++ S ++ R) o = some (T ++ S ++ R).length ↔ cns (T ++ B ++ R) o = some (T ++ B ++ R).length
  | [], 0 => by
    have := cns_open hs
    have := cns_open hb
    rw [cns_zero, cns_zero]; simp; omega
  | [], o + 1 => by
    have h1 : ∀ Z : List Nd, cns Z 1 = some Z.length → (cns (Z ++ R) (1 + o) = some (Z ++ R).length ↔ cns R o = some R.length) := by
      intro Z hz
      rw [cns_add, cns_append R hz]
      simp only [Option.bind_some, List.drop_left, List.length_append]
      cases cns R o <;> simp; omega
    rw [List.nil_append, List.nil_append, show o + 1 = 1 + o by omega, h1 S hs, h1 B hb]
  | x :: T, 0 => by
    rw [cns_zero, cns_zero]; simp
  | x :: T, o + 1 => by
    rw [List.cons_append, List.cons_append, List.cons_append, List.cons_append, cns_cons, cns_cons]
    split
    · simp
    · have key : ∀ (Z : List Nd) (q : Nat), (cns Z q).map (· + 1) = some (Z.length + 1) ↔ cns Z q = some Z.length := by
        intro Z q; cases cns Z q <;> simp
      rw [List.length_cons, List.length_cons, key, key]
      exact cns_swap hs hb T (o + x.kids.toNat)

structure PutOk (L : List Nd) (n k : Nat) (B P : List Nd) : Prop where
  put : putF L (n : Int) B = P
  sub : subF P (n : Int) = B
  ok : endF P (n : Int) = n + B.length
  len : P.length = L.length - k + B.length
  lo : P.take n = L.take n
  hi : P.drop (n + B.length) = L.drop (n + k)
  whole : wholeF P = wholeF L
  n_le : n + k ≤ L.length

theorem put_ok {L B : List Nd} {n k : Nat} (h : cns (L.drop n) 1 = some k) (hb : wholeF B = true) : PutOk L n k B (L.take n ++ B ++ L.drop (n + k)) := by
  have hB := (whole_cns B).1 hb
  have hk := cns_le h
  have hk1 := cns_open h
  rw [List.length_drop] at hk
  have hn : (L.take n).length = n := by rw [List.length_take]; omega
  have hd : (L.take n ++ B ++ L.drop (n + k)).drop n = B ++ L.drop (n + k) := by
    rw [List.append_assoc, List.drop_append_of_le_length (by omega), List.drop_of_length_le (by omega), List.nil_append]
  have hc : cns ((L.take n ++ B ++ L.drop (n + k)).drop n) 1 = some B.length := by rw [hd]; exact cns_append _ hB
  refine ⟨?_, ?_, endF_of hc, ?_, ?_, ?_, ?_, by omega⟩
  · rw [putF, endF_of h, if_neg (by rintro (h1 | h1); omega; rw [hb] at h1; cases h1), Int.toNat_natCast, show ((n : Int) + k).toNat = n + k by omega]
  · rw [subF_of hc, hd, List.take_left]
  · simp only [List.length_append, List.length_drop, hn]; omega
  · rw [List.append_assoc, List.take_append_of_le_length (by omega), List.take_of_length_le (by omega)]
  · rw [List.drop_append_of_le_length (by simp only [List.length_append, hn]; omega), List.drop_of_length_le (by simp only [List.length_append, hn]; omega), List.nil_append]
  · have hS : cns ((L.drop n).take k) 1 = some ((L.drop n).take k).length := by
      rw [cns_take h, List.length_take, List.length_drop]; congr 1; omega
    have hL : L = L.take n ++ (L.drop n).take k ++ L.drop (n + k) := by
      conv => lhs; rw [← List.take_append_drop n L, ← List.take_append_drop k (L.drop n), List.drop_drop]
      rw [List.append_assoc]
    have := cns_swap (R := L.drop (n + k)) hS hB (L.take n) 1
    rw [← hL] at this
    rw [Bool.eq_iff_iff, whole_cns, whole_cns]
    exact this.symm

theorem put_same {L : List Nd} {n k : Nat} (h : cns (L.drop n) 1 = some k) : putF L (n : Int) (subF L (n : Int)) = L ∧ wholeF (subF L (n : Int)) = true := by
  have hw : wholeF (subF L (n : Int)) = true := by
    have hk := cns_le h
    rw [whole_cns, subF_of h, cns_take h, List.length_take]; congr 1; omega
  refine ⟨?_, hw⟩
  rw [(put_ok h hw).put, subF_of h]
  conv => rhs; rw [← List.take_append_drop n L, ← List.take_append_drop k (L.drop n), List.drop_drop]
  rw [List.append_assoc]

end Go.Proofs.Ytcmbbnidnddomaa
