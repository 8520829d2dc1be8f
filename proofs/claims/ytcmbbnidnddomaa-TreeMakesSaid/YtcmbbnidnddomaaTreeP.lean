/- The tree statements, in plain words: a node's kids and their trees; how deep a tree is. -/
import Derived.Test.YtcmbbnidnddomaaTreeN
import Derived.Test.YtcmbbnidnddomaaTreeG
import Derived.Test.YtcmbbnidnddomaaTreeI
namespace Go.Proofs.Ytcmbbnidnddomaa

/-! ### a node's kids, and their trees -/
def starts : Int → List (List Nd) → List Int
  | _, [] => []
  | b, K :: KK => b :: starts (b + K.length) KK

theorem split_cns : ∀ (j : Nat) {l : List Nd} {k : Nat}, cns l j = some k → ∃ KK : List (List Nd), KK.length = j ∧ KK.flatten = l.take k ∧ ∀ K ∈ KK, cns K 1 = some K.length
  | 0, l, k, h => by rw [cns_zero] at h; injection h with h; subst h; exact ⟨[], rfl, by simp, by simp⟩
  | j + 1, l, k, h => by
    rw [show j + 1 = 1 + j by omega, cns_add] at h
    cases h1 : cns l 1 with
    | none => rw [h1] at h; cases h
    | some k1 =>
      rw [h1] at h; simp only [Option.bind_some] at h
      cases h2 : cns (l.drop k1) j with
      | none => rw [h2] at h; cases h
      | some k2 =>
        rw [h2] at h; simp only [Option.map_some, Option.some.injEq] at h; subst h
        obtain ⟨KK, e1, e2, e3⟩ := split_cns j h2
        have hl := cns_le h1
        refine ⟨l.take k1 :: KK, by simp [e1], ?_, ?_⟩
        · rw [List.flatten_cons, e2, Nat.add_comm k2 k1, List.take_add]
        · intro K hK
          rcases List.mem_cons.1 hK with rfl | hK
          · rw [cns_take h1, List.length_take]; congr 1; omega
          · exact e3 K hK

theorem forest_cns : ∀ (KK : List (List Nd)), (∀ K ∈ KK, cns K 1 = some K.length) → cns KK.flatten KK.length = some KK.flatten.length
  | [], _ => by rw [List.length_nil, cns_zero]; rfl
  | K :: KK, h => by
    have h1 := h K (by simp)
    have h2 := forest_cns KK (fun K' hK => h K' (by simp [hK]))
    rw [List.length_cons, Nat.add_comm, cns_add, List.flatten_cons, cns_append _ h1]
    simp only [Option.bind_some, List.drop_left, h2, Option.map_some, List.length_append, Option.some.injEq]; omega

/-- the trees of a row, one behind another: where each begins -/
theorem seqE_at {L : List Nd} {n : Nat} {KK : List (List Nd)} {R : List Nd} (hd : L.drop n = KK.flatten ++ R) (hw : ∀ K ∈ KK, cns K 1 = some K.length) : ∀ i, i ≤ KK.length → seqE L (n : Int) i = (n : Int) + ((KK.take i).flatten.length : Nat)
  | 0, _ => by simp [seqE]
  | i + 1, hi => by
    have ih := seqE_at hd hw i (by omega)
    rw [seqE_succ (by omega), ih]
    have hK : KK[i]? = some KK[i] := List.getElem?_eq_getElem (by omega)
    have h1 := hw KK[i] (List.getElem_mem _)
    have hdr : L.drop (n + (KK.take i).flatten.length) = KK[i] ++ ((KK.drop (i + 1)).flatten ++ R) := by
      rw [← List.drop_drop, hd]
      conv => lhs; rw [← List.take_append_drop i KK, List.flatten_append, List.append_assoc]
      rw [List.drop_append_of_le_length (by simp), List.drop_of_length_le (by simp), List.nil_append, List.drop_eq_getElem_cons (by omega), List.flatten_cons, List.append_assoc]
    have h2 := endF_of (L := L) (n := n + (KK.take i).flatten.length) (by rw [hdr]; exact cns_append _ h1)
    rw [show (n : Int) + ((KK.take i).flatten.length : Nat) = ((n + (KK.take i).flatten.length : Nat) : Int) by omega, h2]
    have h9 : (KK.take (i + 1)).flatten.length = (KK.take i).flatten.length + KK[i].length := by
      rw [List.take_add_one, hK, List.flatten_append, List.length_append]; simp
    omega

theorem starts_eq : ∀ (KK : List (List Nd)) (b : Int), starts b KK = (List.range KK.length).map (fun i => b + ((KK.take i).flatten.length : Nat))
  | [], b => rfl
  | K :: KK, b => by
    rw [List.length_cons, List.range_succ_eq_map, List.map_cons, List.map_map, starts, starts_eq KK]
    simp [Function.comp_def]
    intro i _; omega

theorem kid_sub {L : List Nd} {n : Nat} {KK : List (List Nd)} {R : List Nd} (hd : L.drop n = KK.flatten ++ R) (hw : ∀ K ∈ KK, cns K 1 = some K.length) {i : Nat} {K : List Nd} (hK : KK[i]? = some K) : subF L ((n : Int) + ((KK.take i).flatten.length : Nat)) = K ∧ endF L ((n : Int) + ((KK.take i).flatten.length : Nat)) = (n : Int) + ((KK.take i).flatten.length : Nat) + (K.length : Nat) ∧ L.drop (n + (KK.take i).flatten.length) = K ++ ((KK.drop (i + 1)).flatten ++ R) := by
  obtain ⟨hi, rfl⟩ := List.getElem?_eq_some_iff.1 hK
  have h1 := hw KK[i] (List.getElem_mem _)
  have hdr : L.drop (n + (KK.take i).flatten.length) = KK[i] ++ ((KK.drop (i + 1)).flatten ++ R) := by
    rw [← List.drop_drop, hd]
    conv => lhs; rw [← List.take_append_drop i KK, List.flatten_append, List.append_assoc]
    rw [List.drop_append_of_le_length (by simp), List.drop_of_length_le (by simp), List.nil_append, List.drop_eq_getElem_cons (by omega), List.flatten_cons, List.append_assoc]
  have h2 : cns (L.drop (n + (KK.take i).flatten.length)) 1 = some KK[i].length := by rw [hdr]; exact cns_append _ h1
  have h3 := subF_of h2
  have h4 := endF_of h2
  rw [show (n : Int) + ((KK.take i).flatten.length : Nat) = ((n + (KK.take i).flatten.length : Nat) : Int) by omega]
  refine ⟨?_, h4, hdr⟩
  rw [h3, hdr, List.take_left]

structure Node (L : List Nd) (n : Nat) (x : Nd) (KK : List (List Nd)) (R : List Nd) : Prop where
  drop : L.drop n = x :: (KK.flatten ++ R)
  kids : x.kids = KK.length
  whole : ∀ K ∈ KK, cns K 1 = some K.length

theorem Node.cnsEq {L : List Nd} {n : Nat} {x : Nd} {KK : List (List Nd)} {R : List Nd} (h : Node L n x KK R) : cns (L.drop n) 1 = some (KK.flatten.length + 1) := by
  rw [h.drop, cns_cons, if_neg (by have := h.kids; omega), show 0 + x.kids.toNat = KK.length by have := h.kids; omega, cns_append _ (forest_cns KK h.whole)]; rfl
theorem Node.at {L : List Nd} {n : Nat} {x : Nd} {KK : List (List Nd)} {R : List Nd} (h : Node L n x KK R) : L[n]? = some x := by
  have := congrArg (·[0]?) h.drop
  simpa using this
theorem Node.next {L : List Nd} {n : Nat} {x : Nd} {KK : List (List Nd)} {R : List Nd} (h : Node L n x KK R) : L.drop (n + 1) = KK.flatten ++ R := by
  rw [← List.drop_drop, h.drop]; rfl
theorem Node.kidsEq {L : List Nd} {n : Nat} {x : Nd} {KK : List (List Nd)} {R : List Nd} (h : Node L n x KK R) : kidsF L (n : Int) = starts ((n : Int) + 1) KK := by
  have h1 := endF_of h.cnsEq
  rw [kidsF, if_neg (by omega), starts_eq, show kidsN L (n : Int) = KK.length by rw [kidsN, Int.toNat_natCast, h.at]; have := h.kids; simp only; omega]
  refine List.map_congr_left fun i hi => ?_
  rw [List.mem_range] at hi
  have := seqE_at h.next h.whole i (by omega)
  rw [show ((n + 1 : Nat) : Int) = (n : Int) + 1 by omega] at this
  exact this
theorem node_of {L : List Nd} {n k : Nat} (h : cns (L.drop n) 1 = some k) : ∃ x KK R, Node L n x KK R ∧ k = KK.flatten.length + 1 := by
  cases hl : L.drop n with
  | nil => rw [hl] at h; cases h
  | cons x r =>
    rw [hl, cns_cons] at h
    split at h
    · cases h
    · rename_i h0
      cases hc : cns r (0 + x.kids.toNat) with
      | none => rw [hc] at h; cases h
      | some j =>
        rw [hc] at h; simp at h; subst h
        obtain ⟨KK, e1, e2, e3⟩ := split_cns _ hc
        have := cns_le hc
        refine ⟨x, KK, r.drop j, ⟨by rw [e2, List.take_append_drop, hl], by rw [e1]; omega, e3⟩, ?_⟩
        rw [e2, List.length_take]; omega

theorem make_node (n : Nd) {KK : List (List Nd)} (hw : ∀ K ∈ KK, wholeF K = true) : Node (makeF n KK) 0 { n with kids := KK.length } KK [] :=
  ⟨by rw [List.drop_zero, makeF, List.append_nil], rfl, fun K hK => (whole_cns K).1 (hw K hK)⟩

theorem starts_len : ∀ (KK : List (List Nd)) (b : Int), (starts b KK).length = KK.length
  | [], _ => rfl
  | _ :: KK, b => by rw [starts, List.length_cons, starts_len KK, List.length_cons]
theorem starts_get {KK : List (List Nd)} {b : Int} {i : Nat} (hi : i < KK.length) : (starts b KK)[i]? = some (b + ((KK.take i).flatten.length : Nat)) := by
  rw [starts_eq, List.getElem?_map, List.getElem?_range hi]; rfl

/-! ### how deep -/
inductive FD : List Nd → Nat → Nat → Prop
  | nil : FD [] 0 0
  | cons (x : Nd) (ks r : List Nd) (n j d e : Nat) (hx : x.kids = n) (h1 : FD ks n d) (h2 : FD r j e) : FD (x :: (ks ++ r)) (j + 1) (max (d + 1) e)

theorem FD.zero {l : List Nd} {d : Nat} (h : FD l 0 d) : l = [] ∧ d = 0 := by
  cases h; exact ⟨rfl, rfl⟩

theorem FD_of : ∀ (N : Nat) {l : List Nd} {j k : Nat}, l.length ≤ N → cns l j = some k → ∃ d, FD (l.take k) j d
  | N, l, 0, k, _, h => by rw [cns_zero] at h; injection h with h; subst h; exact ⟨0, .nil⟩
  | N, [], j + 1, k, _, h => by cases h
  | 0, x :: r, j + 1, k, hN, h => by simp at hN
  | N + 1, x :: r, j + 1, k, hN, h => by
    rw [cns_cons] at h
    split at h
    · cases h
    · rename_i h0
      rw [Nat.add_comm j, cns_add] at h
      cases h1 : cns r x.kids.toNat with
      | none => rw [h1] at h; cases h
      | some k1 =>
        rw [h1] at h; simp only [Option.bind_some] at h
        cases h2 : cns (r.drop k1) j with
        | none => rw [h2] at h; cases h
        | some k2 =>
          rw [h2] at h; simp only [Option.map_some, Option.some.injEq] at h; subst h
          simp only [List.length_cons] at hN
          obtain ⟨d, f1⟩ := FD_of N (by omega) h1
          obtain ⟨e, f2⟩ := FD_of N (by rw [List.length_drop]; omega) h2
          refine ⟨max (d + 1) e, ?_⟩
          rw [List.take_succ_cons, Nat.add_comm k2 k1, List.take_add]
          exact .cons x _ _ _ _ d e (by omega) f1 f2

theorem FD.append {l : List Nd} {a d : Nat} (h : FD l a d) {r : List Nd} {b e : Nat} (hr : FD r b e) : FD (l ++ r) (a + b) (max d e) := by
  induction h with
  | nil => simpa using hr
  | cons x ks r' n j d' e' hx h1 h2 _ ih2 =>
    have := FD.cons x ks (r' ++ r) n (j + b) d' (max e' e) hx h1 ih2
    rw [List.cons_append, List.append_assoc, show j + 1 + b = j + b + 1 by omega, show max (max (d' + 1) e') e = max (d' + 1) (max e' e) by omega]
    exact this

theorem deep_forest {l : List Nd} {j d : Nat} (h : FD l j d) : ∀ (R : List Nd) (m y : Int) (s : List Int), (j : Int) ≤ y → 1 ≤ y → (s.length : Int) + 1 ≤ m → deepGo (l ++ R) m (y :: s) = deepGo R (max m ((s.length : Int) + 1 + d)) (popF ((y - j) :: s)) := by
  induction h with
  | nil =>
    intro R m y s _ h2 h3
    rw [List.nil_append, popF_ne (by omega)]
    congr 1
    · omega
    · simp
  | cons x ks r n j d e hx h1 h2 ih1 ih2 =>
    intro R m y s hj hy hm
    have htail : ∀ m', (s.length : Int) + 1 ≤ m' → deepGo (r ++ R) m' (popF ((y - 1) :: s)) = deepGo R (max m' ((s.length : Int) + 1 + e)) (popF ((y - 1 - j) :: s)) := by
      intro m' hm'
      by_cases hz : y - 1 = 0
      · have hj0 : j = 0 := by omega
        subst hj0
        obtain ⟨rfl, rfl⟩ := h2.zero
        rw [List.nil_append]; congr 1
        · omega
        · simp
      · rw [popF_ne hz]
        exact ih2 R m' (y - 1) s (by omega) (by omega) hm'
    rw [List.cons_append, deepGo, List.append_assoc, List.length_cons, hx]
    by_cases hn : n = 0
    · subst hn
      obtain ⟨rfl, rfl⟩ := h1.zero
      rw [List.nil_append, show ((0 : Nat) : Int) = 0 from rfl, popF_zero, htail _ (by omega)]
      congr 1
      · omega
      · congr 2; omega
    · rw [popF_ne (by omega), ih1 (r ++ R) _ n (y :: s) (by omega) (by omega) (by simp only [List.length_cons]; omega), show (n : Int) - n = 0 by omega, popF_zero, htail _ (by omega), List.length_cons]
      congr 1
      · omega
      · congr 2; omega

theorem deep_whole {T : List Nd} {d : Nat} (hw : wholeF T = true) (h : FD T 1 d) : deepF T = d := by
  rw [deepF, if_pos hw]
  cases h with
  | cons x ks r n j d e hx h1 h2 =>
    obtain ⟨rfl, rfl⟩ := h2.zero
    rw [List.append_nil, deepGo, hx]
    by_cases hn : n = 0
    · subst hn
      obtain ⟨rfl, rfl⟩ := h1.zero
      rw [show ((0 : Nat) : Int) = 0 from rfl, popF_one, deepGo]; rfl
    · have := deep_forest h1 [] (max 0 (([] : List Int).length + 1)) n [] (by omega) (by omega) (by simp only [List.length_nil]; omega)
      rw [List.append_nil] at this
      rw [popF_ne (by omega), this, deepGo]; simp; omega

def mxF (KK : List (List Nd)) : Int := KK.foldl (fun m K => max m (deepF K)) 0

theorem forest_FD : ∀ (KK : List (List Nd)), (∀ K ∈ KK, wholeF K = true) → ∃ d : Nat, FD KK.flatten KK.length d ∧ ∀ m : Int, 0 ≤ m → KK.foldl (fun m K => max m (deepF K)) m = max m d
  | [], _ => ⟨0, .nil, fun m hm => by simp; omega⟩
  | K :: KK, h => by
    have hK := h K (by simp)
    obtain ⟨d, hd⟩ := FD_of K.length (Nat.le_refl _) ((whole_cns K).1 hK)
    rw [List.take_length] at hd
    obtain ⟨e, he, hf⟩ := forest_FD KK (fun K' hK' => h K' (by simp [hK']))
    refine ⟨max d e, ?_, fun m hm => ?_⟩
    · rw [List.flatten_cons, List.length_cons, Nat.add_comm]; exact hd.append he
    · rw [List.foldl_cons, deep_whole hK hd, hf _ (by omega)]; omega

theorem deep_make {T : List Nd} {x : Nd} {KK : List (List Nd)} (hT : T = x :: KK.flatten) (hx : x.kids = KK.length) (hw : ∀ K ∈ KK, wholeF K = true) : deepF T = mxF KK + 1 ∧ wholeF T = true := by
  obtain ⟨d, hd, hf⟩ := forest_FD KK hw
  have hn : Node T 0 x KK [] := ⟨by rw [List.drop_zero, hT, List.append_nil], hx, fun K hK => (whole_cns K).1 (hw K hK)⟩
  have hwT : wholeF T = true := by
    have := hn.cnsEq
    rw [List.drop_zero] at this
    rw [whole_cns, this, hT]; rfl
  have h1 := FD.cons x KK.flatten [] KK.length 0 d 0 hx hd .nil
  rw [List.append_nil, ← hT] at h1
  rw [deep_whole hwT h1, mxF, hf 0 (Int.le_refl 0)]
  exact ⟨by omega, hwT⟩

end Go.Proofs.Ytcmbbnidnddomaa
