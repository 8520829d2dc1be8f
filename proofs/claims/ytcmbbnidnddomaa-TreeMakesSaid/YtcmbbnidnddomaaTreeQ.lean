/- The tree statements, in plain words: the depth again; whose kid a node is. -/
import Derived.Test.YtcmbbnidnddomaaTreeP
import Derived.Test.YtcmbbnidnddomaaTreeE
namespace Go.Proofs.Ytcmbbnidnddomaa

/-! ### the reference's depth -/
theorem rdeep_of {L : List Nd} : ∀ (n a k : Nat), cns (L.drop a) 1 = some k → L.length < n + a → rdeepN L n (a : Int) = deepF ((L.drop a).take k)
  | 0, a, k, h, hn => by rw [List.drop_of_length_le (by omega)] at h; cases h
  | n + 1, a, k, h, hn => by
    obtain ⟨x, KK, R, hN, rfl⟩ := node_of h
    have hT : (L.drop a).take (KK.flatten.length + 1) = x :: KK.flatten := by rw [hN.drop, List.take_succ_cons, List.take_left]
    rw [(deep_make hT hN.kids (fun K hK => (whole_cns K).2 (hN.whole K hK))).1, mxF, rdeepN, hN.kidsEq]
    have key : ∀ (KK : List (List Nd)) (b : Nat) (R : List Nd) (m : Int), L.drop b = KK.flatten ++ R → (∀ K ∈ KK, cns K 1 = some K.length) → L.length < n + b →
        (starts (b : Int) KK).foldl (fun m k => max m (rdeepN L n k)) m = KK.foldl (fun m K => max m (deepF K)) m := by
      intro KK
      induction KK with
      | nil => intros; rfl
      | cons K KK ih =>
        intro b R m hd hw hb
        have h1 : cns (L.drop b) 1 = some K.length := by
          rw [hd, List.flatten_cons, List.append_assoc]; exact cns_append _ (hw K (by simp))
        have h2 := rdeep_of n b K.length h1 hb
        rw [hd, List.flatten_cons, List.append_assoc, List.take_left] at h2
        rw [starts, List.foldl_cons, List.foldl_cons, h2, show (b : Int) + (K.length : Nat) = ((b + K.length : Nat) : Int) by omega]
        refine ih (b + K.length) R _ ?_ (fun K' hK' => hw K' (by simp [hK'])) (by omega)
        rw [← List.drop_drop, hd, List.flatten_cons, List.append_assoc, List.drop_left]
    have := key KK (a + 1) R 0 hN.next hN.whole (by omega)
    rw [show ((a + 1 : Nat) : Int) = (a : Int) + 1 by omega] at this
    rw [this]

theorem rdeep_whole {L : List Nd} (hw : wholeF L = true) {n : Nat} (hn : L.length < n) : rdeepN L n 0 = deepF L := by
  have := rdeep_of (L := L) n 0 L.length (by rw [List.drop_zero]; exact (whole_cns L).1 hw) (by omega)
  rw [List.drop_zero, List.take_length] at this
  exact this

/-! ### whose kid -/
theorem starts_mem : ∀ {KK : List (List Nd)} {c b : Int}, (∀ K ∈ KK, cns K 1 = some K.length) → b ∈ starts c KK → c ≤ b ∧ b < c + (KK.flatten.length : Nat)
  | [], _, _, _, h => by cases h
  | K :: KK, c, b, hw, h => by
    have h1 := cns_open (hw K (by simp))
    rw [List.flatten_cons, List.length_append]
    rcases List.mem_cons.1 h with rfl | h
    · omega
    · have := starts_mem (fun K' hK' => hw K' (by simp [hK'])) h
      omega

theorem Node.kid_mem {L : List Nd} {i : Nat} {x : Nd} {KK : List (List Nd)} {R : List Nd} (h : Node L i x KK R) {b : Int} (hb : b ∈ kidsF L (i : Int)) : (i : Int) < b ∧ b < (i : Int) + 1 + (KK.flatten.length : Nat) := by
  rw [h.kidsEq] at hb
  have := starts_mem h.whole hb
  omega

structure Fam (L : List Nd) (n z : Nat) (S : List Int) : Prop where
  node : ∀ i : Nat, n ≤ i → i < n + z → ∃ x KK R, Node L i x KK R ∧ i + 1 + KK.flatten.length ≤ n + z
  one : ∀ b : Int, (n : Int) ≤ b → b < (n : Int) + (z : Nat) → b ∉ S → ∃ i : Nat, n ≤ i ∧ i < n + z ∧ b ∈ kidsF L (i : Int) ∧ ∀ i' : Nat, n ≤ i' → i' < n + z → b ∈ kidsF L (i' : Int) → i' = i
  none : ∀ b ∈ S, ∀ i : Nat, n ≤ i → i < n + z → b ∉ kidsF L (i : Int)

theorem Fam.loc {L : List Nd} {n z : Nat} {S : List Int} (h : Fam L n z S) {i : Nat} (h1 : n ≤ i) (h2 : i < n + z) {b : Int} (hb : b ∈ kidsF L (i : Int)) : (i : Int) < b ∧ b < (n : Int) + (z : Nat) := by
  obtain ⟨x, KK, R, hN, hz⟩ := h.node i h1 h2
  have := hN.kid_mem hb
  omega

theorem fam {L : List Nd} : ∀ (N : Nat) (KK : List (List Nd)) (n : Nat) (R : List Nd), L.drop n = KK.flatten ++ R → (∀ K ∈ KK, cns K 1 = some K.length) → KK.flatten.length ≤ N → Fam L n KK.flatten.length (starts (n : Int) KK)
  | N, [], n, R, _, _, _ => ⟨fun i h1 h2 => by simp at h2; omega, fun b h1 h2 => by simp at h2; omega, fun b hb => by cases hb⟩
  | 0, K :: KK, n, R, hd, hw, hN => by
    have := cns_open (hw K (by simp))
    rw [List.flatten_cons, List.length_append] at hN; omega
  | N + 1, K :: KK, n, R, hd, hw, hN => by
    have hK := hw K (by simp)
    have hKl := cns_open hK
    rw [List.flatten_cons, List.length_append] at hN
    have hd1 : L.drop n = K ++ (KK.flatten ++ R) := by rw [hd, List.flatten_cons, List.append_assoc]
    have hc : cns (L.drop n) 1 = some K.length := by rw [hd1]; exact cns_append _ hK
    obtain ⟨x, K1, R1, hNd, hk⟩ := node_of hc
    have F := fam N K1 (n + 1) R1 hNd.next hNd.whole (by omega)
    have hd2 : L.drop (n + K.length) = KK.flatten ++ R := by rw [← List.drop_drop, hd1, List.drop_left]
    have G := fam N KK (n + K.length) R hd2 (fun K' hK' => hw K' (by simp [hK'])) (by omega)
    have hz : (K :: KK).flatten.length = K1.flatten.length + 1 + KK.flatten.length := by rw [List.flatten_cons, List.length_append]; omega
    have hkn : ∀ b, b ∈ kidsF L (n : Int) ↔ b ∈ starts (((n + 1 : Nat) : Int)) K1 := fun b => by rw [hNd.kidsEq]; rw [show ((n + 1 : Nat) : Int) = (n : Int) + 1 by omega]
    rw [hz]
    refine ⟨fun i h1 h2 => ?_, fun b h1 h2 hS => ?_, fun b hS i h1 h2 hb => ?_⟩
    · rcases Nat.lt_or_ge n i with h3 | h3
      · rcases Nat.lt_or_ge i (n + K.length) with h4 | h4
        · obtain ⟨x', KK', R', hN', hz'⟩ := F.node i (by omega) (by omega)
          exact ⟨x', KK', R', hN', by omega⟩
        · obtain ⟨x', KK', R', hN', hz'⟩ := G.node i (by omega) (by omega)
          exact ⟨x', KK', R', hN', by omega⟩
      · have : i = n := by omega
        subst this
        exact ⟨x, K1, R1, hNd, by omega⟩
    · rw [starts, List.mem_cons, show (n : Int) + (K.length : Nat) = ((n + K.length : Nat) : Int) by omega] at hS
      rcases Int.lt_or_le b ((n : Int) + (K.length : Nat)) with h3 | h3
      · by_cases h4 : b ∈ starts (((n + 1 : Nat) : Int)) K1
        · refine ⟨n, Nat.le_refl _, by omega, (hkn b).2 h4, fun i' g1 g2 g3 => ?_⟩
          rcases Nat.lt_or_ge n i' with h5 | h5
          · rcases Nat.lt_or_ge i' (n + K.length) with h6 | h6
            · exact absurd g3 (F.none b h4 i' (by omega) (by omega))
            · have := G.loc h6 (by omega) g3; omega
          · omega
        · have hbn : b ≠ (n : Int) := fun e => hS (.inl e)
          obtain ⟨i, f1, f2, f3, f4⟩ := F.one b (by omega) (by omega) h4
          refine ⟨i, by omega, by omega, f3, fun i' g1 g2 g3 => ?_⟩
          rcases Nat.lt_or_ge n i' with h5 | h5
          · rcases Nat.lt_or_ge i' (n + K.length) with h6 | h6
            · exact f4 i' (by omega) (by omega) g3
            · have := G.loc h6 (by omega) g3; omega
          · have : i' = n := by omega
            subst this
            exact absurd ((hkn b).1 g3) h4
      · obtain ⟨i, f1, f2, f3, f4⟩ := G.one b (by omega) (by omega) (fun e => hS (.inr e))
        refine ⟨i, by omega, by omega, f3, fun i' g1 g2 g3 => ?_⟩
        rcases Nat.lt_or_ge i' (n + K.length) with h6 | h6
        · rcases Nat.lt_or_ge n i' with h5 | h5
          · have := F.loc (by omega) (by omega) g3; omega
          · have : i' = n := by omega
            subst this
            have := hNd.kid_mem g3; omega
        · exact f4 i' h6 (by omega) g3
    · rw [starts, List.mem_cons, show (n : Int) + (K.length : Nat) = ((n + K.length : Nat) : Int) by omega] at hS
      have hlo : (i : Int) < b := by
        rcases Nat.lt_or_ge n i with h5 | h5
        · rcases Nat.lt_or_ge i (n + K.length) with h6 | h6
          · exact (F.loc (by omega) (by omega) hb).1
          · exact (G.loc h6 (by omega) hb).1
        · have : i = n := by omega
          subst this
          exact (hNd.kid_mem hb).1
      rcases hS with rfl | hS
      · omega
      · have hbg := starts_mem (fun K' hK' => hw K' (by simp [hK'])) hS
        rcases Nat.lt_or_ge i (n + K.length) with h6 | h6
        · rcases Nat.lt_or_ge n i with h5 | h5
          · have := F.loc (by omega) (by omega) hb; omega
          · have : i = n := by omega
            subst this
            have := hNd.kid_mem hb; omega
        · exact G.none b hS i h6 (by omega) hb

theorem whole_fam {L : List Nd} (hw : wholeF L = true) : Fam L 0 L.length [0] := by
  have h := fam (L := L) L.length [L] 0 [] (by simp) (by intro K hK; simp at hK; subst hK; exact (whole_cns _).1 hw) (by simp)
  simpa [starts] using h

theorem upGo_hit {L : List Nd} {b : Int} {i : Nat} (hb : b ∈ kidsF L (i : Int)) : ∀ (n : Nat), i < n → (∀ i' : Nat, i' < n → b ∈ kidsF L (i' : Int) → i' = i) → upGo L b n = i
  | 0, h, _ => by omega
  | n + 1, h, hu => by
    rw [upGo]
    by_cases h1 : b ∈ kidsF L (n : Int)
    · rw [if_pos h1, hu n (by omega) h1]
    · rw [if_neg h1]
      have : n ≠ i := fun e => h1 (e ▸ hb)
      exact upGo_hit hb n (by omega) (fun i' g => hu i' (by omega))

theorem rupGo_hit {L : List Nd} {b : Int} {i : Nat} (hb : b ∈ kidsF L (i : Int)) : ∀ (n j : Nat), j ≤ i → i < j + n → (∀ i' : Nat, i' < j + n → b ∈ kidsF L (i' : Int) → i' = i) → rupGo L b n j = i
  | 0, j, h1, h2, _ => by omega
  | n + 1, j, h1, h2, hu => by
    rw [rupGo]
    by_cases h3 : b ∈ kidsF L (j : Int)
    · rw [if_pos h3, hu j (by omega) h3]
    · rw [if_neg h3]
      have : j ≠ i := fun e => h3 (e ▸ hb)
      exact rupGo_hit hb n (j + 1) (by omega) (by omega) (fun i' g => hu i' (by omega))
theorem rupGo_miss {L : List Nd} {b : Int} : ∀ (n j : Nat), (∀ i' : Nat, i' < j + n → b ∉ kidsF L (i' : Int)) → rupGo L b n j = -1
  | 0, j, _ => rfl
  | n + 1, j, hu => by
    rw [rupGo, if_neg (hu j (by omega))]
    exact rupGo_miss n (j + 1) (fun i' g => hu i' (by omega))

/-- in a whole tree: whose kid a node is -/
theorem up_kid {L : List Nd} (hw : wholeF L = true) {b : Int} {i : Nat} (hi : i < L.length) (hb : b ∈ kidsF L (i : Int)) : upF L b = i := by
  have hf := whole_fam hw
  have hl := hf.loc (Nat.zero_le i) (by omega) hb
  obtain ⟨i0, g1, g2, g3, g4⟩ := hf.one b (by omega) (by omega) (by simp; omega)
  have hi0 := g4 i (Nat.zero_le _) (by omega) hb
  subst hi0
  rw [upF, if_neg (by rintro (h | h | h); rw [hw] at h; cases h; omega; omega)]
  exact upGo_hit hb _ (by omega) (fun i' h1 h2 => g4 i' (Nat.zero_le _) (by omega) h2)

theorem up_rup {L : List Nd} (hw : wholeF L = true) (b : Int) : upF L b = rupGo L b L.length 0 := by
  have hf := whole_fam hw
  by_cases hr : 1 ≤ b ∧ b < (L.length : Int)
  · obtain ⟨i0, g1, g2, g3, g4⟩ := hf.one b (by omega) (by omega) (by simp; omega)
    rw [up_kid hw (by omega) g3, rupGo_hit g3 L.length 0 (Nat.zero_le _) (by omega) (fun i' h1 h2 => g4 i' (Nat.zero_le _) (by omega) h2)]
  · rw [upF, if_pos (by omega), rupGo_miss]
    intro i' hi' hb
    have := hf.loc (Nat.zero_le i') (by omega) hb
    omega

/-- how many kids there are in all -/
theorem sum_kids : ∀ {l : List Nd} {j k : Nat}, cns l j = some k → j + ((l.take k).map fun x => x.kids.toNat).sum = k
  | l, 0, k, h => by rw [cns_zero] at h; injection h with h; subst h; simp
  | [], j + 1, k, h => by cases h
  | x :: r, j + 1, k, h => by
    rw [cns_cons] at h
    split at h
    · cases h
    · cases hc : cns r (j + x.kids.toNat) with
      | none => rw [hc] at h; cases h
      | some k' =>
        rw [hc] at h; simp only [Option.map_some, Option.some.injEq] at h; subst h
        have := sum_kids hc
        rw [List.take_succ_cons, List.map_cons, List.sum_cons]; omega

def allK (L : List Nd) : Nat → Nat
  | 0 => 0
  | i + 1 => allK L i + (kidsF L (i : Int)).length
theorem allK_take {L : List Nd} (hw : wholeF L = true) : ∀ i, i ≤ L.length → allK L i = ((L.take i).map fun x => x.kids.toNat).sum
  | 0, _ => by simp [allK]
  | i + 1, h => by
    obtain ⟨x, KK, R, hN, _⟩ := (whole_fam hw).node i (Nat.zero_le _) (by omega)
    rw [allK, allK_take hw i (by omega), List.take_add_one, hN.at, hN.kidsEq, starts_len]
    have := hN.kids
    simp; omega
theorem allK_whole {L : List Nd} (hw : wholeF L = true) : allK L L.length + 1 = L.length := by
  have := sum_kids ((whole_cns L).1 hw)
  rw [allK_take hw _ (Nat.le_refl _)]
  omega

end Go.Proofs.Ytcmbbnidnddomaa
