/- The layout statements: the law LayoutNests. -/
import Derived.Test.YtcjakkbanlgafaaZLayP3
import Derived.Test.YtcjakkbanlgafaaZLayP2
namespace Go.Proofs.Ytcjakkbanlgafaa
open Go.Sx Go.RowKit Go.Lib
attribute [local irreducible] Ylds astep alex alexE alexD awp PCall FCall RCall MCall QCall athen ablock ajump rpost fpost mpost

/-- each line set in by n more -/
def ins (n : Nat) (s : List UInt8) : List UInt8 := s.flatMap fun b => if b = 10 then 10 :: List.replicate n 32 else [b]
theorem ins_app (n : Nat) (a b : List UInt8) : ins n (a ++ b) = ins n a ++ ins n b := by simp [ins]
theorem ins_fine {n : Nat} {s : List UInt8} (h : ∀ b ∈ s, b ≠ 10) : ins n s = s := by
  induction s with
  | nil => rfl
  | cons b s ih =>
    have h1 : b ≠ 10 := h b (by simp)
    have h2 := ih (fun b hb => h b (by simp [hb]))
    show (if b = 10 then 10 :: List.replicate n 32 else [b]) ++ ins n s = _
    rw [if_neg h1, h2]; rfl
theorem ins_feed (n k : Nat) : ins n (10 :: List.replicate k 32) = 10 :: List.replicate (k + n) 32 := by
  show (if (10 : UInt8) = 10 then 10 :: List.replicate n 32 else [10]) ++ ins n (List.replicate k 32) = _
  rw [if_pos rfl, ins_fine (fun b hb => by rw [List.eq_of_mem_replicate hb]; decide), List.cons_append, List.replicate_append_replicate, Nat.add_comm]
theorem ins_len {n : Nat} (hn : n ≤ 40) (s : List UInt8) : (ins n s).length ≤ 41 * s.length := by
  induction s with
  | nil => exact Nat.le_refl _
  | cons b s ih =>
    show ((if b = 10 then 10 :: List.replicate n 32 else [b]) ++ ins n s).length ≤ _
    rw [List.length_append, List.length_cons]
    split
    · rw [List.length_cons, List.length_replicate]; omega
    · rw [List.length_singleton]; omega
theorem ins_succ {n : Nat} {s : List UInt8} {i : Nat} (h : i < s.length) : ins n (s.take (i + 1)) = ins n (s.take i) ++ (if s.getD i 0 = 10 then 10 :: List.replicate n 32 else [s.getD i 0]) := by
  rw [take_succ_get (getD_some' h), ins_app]; congr 1; simp [ins]

/-- two pens, one set in -/
def Ind (n : Nat) (p p' : Pen) : Prop := p'.out = ins n p.out ∧ p'.col = p.col + n
theorem kidsP_ind {n : Nat} {f f' : Nat → Pen → Pen} (hf : ∀ t p p', Ind n p p' → Ind n (f t p) (f' t p')) (L : List Nd) (a : Int) : ∀ (i : Nat) (p p' : Pen), Ind n p p' → Ind n (kidsP f L a i p) (kidsP f' L a i p')
  | 0, _, _, h => h
  | i + 1, p, p', h => hf _ _ _ (kidsP_ind hf L a i p p' h)
theorem put_ind {n : Nat} {p p' : Pen} {s : List UInt8} (hs : ∀ b ∈ s, b ≠ 10) (h : Ind n p p') : Ind n (p.put s) (p'.put s) := by
  obtain ⟨h1, h2⟩ := h
  refine ⟨?_, ?_⟩
  · simp only [Pen.put]; rw [h1, ins_app, ins_fine hs]
  · simp only [Pen.put]; omega
theorem feed_ind {n k : Nat} {p p' : Pen} (h : Ind n p p') : Ind n (p.feed k) (p'.feed (k + n)) := by
  obtain ⟨h1, h2⟩ := h
  refine ⟨?_, ?_⟩
  · simp only [Pen.feed]; rw [h1, ins_app, ins_feed]
  · simp only [Pen.feed]
theorem layN_ind {L : List Nd} {w n : Nat} (hr : ∀ x ∈ L, rightF x = true) : ∀ (m k ind : Nat) (fl : Bool) (p p' : Pen), Ind n p p' → Ind n (layN L w m k ind fl p) (layN L (w + n) m k (ind + n) fl p') := by
  intro m
  induction m with
  | zero => intro k ind fl p p' h; exact h
  | succ m ih =>
    intro k ind fl p p' h
    cases hx : L[k]? with
    | none => simp only [layN, hx]; exact h
    | some x =>
      have hrx := hr x (List.mem_of_getElem? hx)
      simp only [layN, hx]
      split
      · exact kidsP_ind (fun t p p' h => ih t ind fl p p' h) L _ _ _ _ (put_ind (text_fine hrx) h)
      · split
        · cases fl with
          | true => exact kidsP_ind (fun t p p' h => ih t ind true p p' h) L _ _ _ _ (put_ind (by simp) h)
          | false => exact kidsP_ind (fun t p p' h => ih t ind false p p' h) L _ _ _ _ (feed_ind h)
        · split
          · rw [show ind + n + x.num.toNat = ind + x.num.toNat + n by omega]
            exact kidsP_ind (fun t p p' h => ih t _ fl p p' h) L _ _ _ _ h
          · split
            · have e : decide (p'.col + sizeF ((L.take (endF L k).toNat).drop k) ≤ w + n) = decide (p.col + sizeF ((L.take (endF L k).toNat).drop k) ≤ w) := by
                rw [h.2]; exact decide_eq_decide.2 (by omega)
              rw [e]
              exact kidsP_ind (fun t p p' h => ih t ind _ p p' h) L _ _ _ _ h
            · exact kidsP_ind (fun t p p' h => ih t ind fl p p' h) L _ _ _ _ h

/-- a line, and the document behind it -/
def catL (L : List Nd) : List Nd := ⟨45, [], 0, 2⟩ :: ⟨42, [], 0, 0⟩ :: L
theorem catL_1 (L : List Nd) : endF (catL L) ((1 : Nat) : Int) = 2 := by
  rw [endF_rec (x := ⟨42, [], 0, 0⟩) rfl, if_neg (by simp only; omega)]; rfl
theorem catL_s1 (L : List Nd) : seqE (catL L) (((0 : Nat) : Int) + 1) 1 = 2 := by
  rw [show seqE (catL L) (((0 : Nat) : Int) + 1) 1 = endF (catL L) (seqE (catL L) (((0 : Nat) : Int) + 1) 0) from seqE_succ (by simp only [seqE]; omega)]
  exact catL_1 L
theorem catL_2 (L : List Nd) : endF (catL L) ((2 : Nat) : Int) = shE 2 (endF L (0 : Nat)) := endF_shift [⟨45, [], 0, 2⟩, ⟨42, [], 0, 0⟩] L 0
theorem catL_0 (L : List Nd) : endF (catL L) ((0 : Nat) : Int) = shE 2 (endF L (0 : Nat)) := by
  rw [endF_rec (x := ⟨45, [], 0, 2⟩) rfl, if_neg (by simp only [catL, List.length_cons]; omega)]
  rw [show (2 : Int).toNat = 1 + 1 from rfl, seqE_succ (by rw [catL_s1]; omega), catL_s1]
  exact catL_2 L
theorem catL_lay {L : List Nd} {w : Nat} (he : 0 ≤ endF L (0 : Nat)) (m ind : Nat) (p : Pen) : layN (catL L) w (m + 2) 0 ind false p = layN L w (m + 1) 0 ind false (p.feed ind) := by
  have h0 : (catL L)[0]? = some ⟨45, [], 0, 2⟩ := rfl
  have h1 : (catL L)[1]? = some ⟨42, [], 0, 0⟩ := rfl
  have e1 : layN (catL L) w (m + 1) 1 ind false p = p.feed ind := by
    simp only [layN, h1]; rfl
  have e2 : ∀ q, layN (catL L) w (m + 1) 2 ind false q = layN L w (m + 1) 0 ind false q := fun q => layN_shift (P := [⟨45, [], 0, 2⟩, ⟨42, [], 0, 0⟩]) (m + 1) 0 ind false q he
  rw [show layN (catL L) w (m + 2) 0 ind false p = kidsP (fun t q => layN (catL L) w (m + 1) t ind false q) (catL L) (((0 : Nat) : Int) + 1) (1 + 1) p by simp only [layN, h0]; rfl]
  simp only [kidsP]
  rw [catL_s1, show (seqE (catL L) (((0 : Nat) : Int) + 1) 0).toNat = 1 from rfl, e1, show (2 : Int).toNat = 2 from rfl]
  exact e2 _
theorem catL_chk {L : List Nd} (hl : L.length ≤ 60) (hc : chkF L = true) : chkF (catL L) = true := by
  have hw : wholeF L = true ∧ L.all rightF = true := by unfold chkF at hc; simp only [Bool.and_eq_true] at hc; exact ⟨hc.1.2, hc.2⟩
  have he : endF L (0 : Nat) = L.length := by have := hw.1; unfold wholeF at this; simp only [Bool.and_eq_true, decide_eq_true_eq] at this; exact this.2
  have h2 : wholeF (catL L) = true := by
    unfold wholeF
    have e0 : endF (catL L) 0 = ((catL L).length : Int) := by
      have := catL_0 L
      rw [he] at this
      refine (show endF (catL L) 0 = endF (catL L) ((0 : Nat) : Int) from rfl).trans (this.trans ?_)
      unfold shE; rw [if_neg (by omega)]; simp only [catL, List.length_cons]; omega
    rw [e0, decide_eq_true rfl, decide_eq_true (show (catL L).length > 0 by simp [catL])]; rfl
  unfold chkF
  rw [h2, decide_eq_true (show (catL L).length ≤ 4000 by simp only [catL, List.length_cons]; omega)]
  simp only [catL, List.all_cons]
  rw [hw.2]; decide
theorem nest_chk {C : List Nd} {n : Int} (hl : C.length ≤ 100) (h0 : 0 ≤ n) (h1 : n ≤ 40) (hc : chkF C = true) : chkF (⟨43, [], n, 1⟩ :: C) = true := by
  have hw : wholeF C = true ∧ C.all rightF = true := by unfold chkF at hc; simp only [Bool.and_eq_true] at hc; exact ⟨hc.1.2, hc.2⟩
  have he : endF C (0 : Nat) = C.length := by have := hw.1; unfold wholeF at this; simp only [Bool.and_eq_true, decide_eq_true_eq] at this; exact this.2
  have h2 : wholeF (⟨43, [], n, 1⟩ :: C) = true := by
    unfold wholeF
    have e0 : endF (⟨43, [], n, 1⟩ :: C) 0 = ((⟨43, [], n, 1⟩ :: C : List Nd).length : Int) := by
      have h1 : endF (⟨43, [], n, 1⟩ :: C) ((0 : Nat) : Int) = shE 1 (endF C (0 : Nat)) := by
        rw [endF_rec (x := ⟨43, [], n, 1⟩) rfl, if_neg (by simp only [List.length_cons]; omega)]
        rw [show (1 : Int).toNat = 0 + 1 from rfl, seqE_succ (by simp only [seqE]; omega)]
        exact endF_shift [⟨43, [], n, 1⟩] C 0
      rw [he] at h1
      refine (show endF (⟨43, [], n, 1⟩ :: C) 0 = endF (⟨43, [], n, 1⟩ :: C) ((0 : Nat) : Int) from rfl).trans (h1.trans ?_)
      unfold shE; rw [if_neg (by omega)]; simp only [List.length_cons]; omega
    rw [e0, decide_eq_true rfl, decide_eq_true (show (⟨43, [], n, 1⟩ :: C : List Nd).length > 0 by simp)]; rfl
  have h3 : rightF ⟨43, [], n, 1⟩ = true := by simp [rightF, oddF, h0, h1]
  unfold chkF
  rw [h2, List.all_cons, h3, hw.2, decide_eq_true (show (⟨43, [], n, 1⟩ :: C : List Nd).length ≤ 4000 by simp only [List.length_cons]; omega)]; rfl
theorem nest_lay {L : List Nd} {n w : Nat} (he : 0 ≤ endF L (0 : Nat)) (hr : ∀ x ∈ L, rightF x = true) : layF (⟨43, [], (n : Int), 1⟩ :: catL L) (w + n) = ins n (layF (catL L) w) := by
  have hec : 0 ≤ endF (catL L) (0 : Nat) := by rw [catL_0]; unfold shE; rw [if_neg (by omega)]; omega
  have h0 : (⟨43, [], (n : Int), 1⟩ :: catL L : List Nd)[0]? = some ⟨43, [], (n : Int), 1⟩ := rfl
  have e1 : layF (⟨43, [], (n : Int), 1⟩ :: catL L) (w + n) = (layN L (w + n) (L.length + 1) 0 n false (Pen.feed ⟨false, [], 0, 0⟩ n)).out := by
    unfold layF
    have hlen : (⟨43, [], (n : Int), 1⟩ :: catL L : List Nd).length = L.length + 2 + 1 := by simp [catL]
    rw [hlen]
    have hs : layN (⟨43, [], (n : Int), 1⟩ :: catL L) (w + n) (L.length + 2) 1 (0 + (n : Int).toNat) false ⟨false, [], 0, 0⟩ = layN (catL L) (w + n) (L.length + 2) 0 (0 + (n : Int).toNat) false ⟨false, [], 0, 0⟩ := layN_shift (P := [⟨43, [], (n : Int), 1⟩]) (L.length + 2) 0 _ false _ hec
    rw [show layN (⟨43, [], (n : Int), 1⟩ :: catL L) (w + n) (L.length + 2 + 1) 0 0 false ⟨false, [], 0, 0⟩ = layN (⟨43, [], (n : Int), 1⟩ :: catL L) (w + n) (L.length + 2) 1 (0 + (n : Int).toNat) false ⟨false, [], 0, 0⟩ by simp only [layN.eq_2, h0]; rfl]
    rw [hs, catL_lay he, Nat.zero_add, Int.toNat_natCast]
  have e2 : layF (catL L) w = (layN L w (L.length + 1) 0 0 false (Pen.feed ⟨false, [], 0, 0⟩ 0)).out := by
    unfold layF
    rw [show (catL L).length = L.length + 2 from rfl, catL_lay he]
  rw [e1, e2]
  have := (layN_ind (w := w) (n := n) hr (L.length + 1) 0 0 false (Pen.feed ⟨false, [], 0, 0⟩ 0) (Pen.feed ⟨false, [], 0, 0⟩ n) (by
    have := feed_ind (n := n) (k := 0) (p := ⟨false, [], 0, 0⟩) (p' := ⟨false, [], n, 0⟩) ⟨rfl, by simp only; omega⟩
    rw [Nat.zero_add] at this
    exact this)).1
  rwa [Nat.zero_add] at this
end Go.Proofs.Ytcjakkbanlgafaa
