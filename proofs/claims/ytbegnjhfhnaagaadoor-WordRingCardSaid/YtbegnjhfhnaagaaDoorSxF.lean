/- The engine: a region that draws its order. One walk of the order of the text serves every order. -/
import Derived.Test.YtbegnjhfhnaagaaDoorSxE
namespace Go.Sx

def drawOk (l : List Oper) : Bool :=
  (List.range l.length).all fun j => match l[j]? with
    | none => true
    | some oj => (match oj.op with | .select _ _ => false | _ => true) &&
      oj.after.all (fun e => !Region.binds .any e || decide (e.on < j)) &&
      (List.range j).all fun k => match l[k]? with
        | some ok => oj.after.any (fun e => Region.binds .any e && e.on == k) || ok.apart l.toArray oj
        | none => true

/-- the state in which just those operations have come up for which f holds -/
def pst : Sl → Nat → List Oper → List SV → (Nat → Bool) → Sl
  | σ, k, o :: l, s :: ss, f => pst (match f k with | true => put σ o.dst s | false => σ) (k + 1) l ss f
  | σ, _, _, _, _ => σ

theorem get_put_ne {σ : Sl} {d : Option Nat} {s : SV} {t : Nat} (h : d ≠ some t) : get (put σ d s) t = get σ t := by
  cases d with
  | none => rfl
  | some d => rw [put, get_cons, if_neg (fun e => h (by rw [e]))]

theorem pst_congr (t : Nat) : ∀ (l : List Oper) (ss : List SV) (σ σ' : Sl) (k : Nat) (f g : Nat → Bool), get σ t = get σ' t →
    (∀ i o, l[i]? = some o → f (k + i) ≠ g (k + i) → o.dst ≠ some t) → get (pst σ k l ss f) t = get (pst σ' k l ss g) t
  | [], _, _, _, _, _, _, h, _ => by simpa [pst] using h
  | _ :: _, [], _, _, _, _, _, h, _ => by simpa [pst] using h
  | o :: l, s :: ss, σ, σ', k, f, g, h, hd => by
    unfold pst
    refine pst_congr t l ss _ _ (k + 1) f g ?_ (fun i o' hi hne => hd (i + 1) o' (by simpa using hi) (by rw [show k + (i + 1) = k + 1 + i by omega]; exact hne))
    have h0 := hd 0 o rfl
    rw [Nat.add_zero] at h0
    have hput : ∀ {τ τ' : Sl}, get τ t = get τ' t → get (put τ o.dst s) t = get (put τ' o.dst s) t := by
      intro τ τ' e
      cases hdst : o.dst with
      | none => exact e
      | some d => simp only [put, get_cons, e]
    cases hf : f k <;> cases hg : g k <;> simp only []
    · exact h
    · rw [get_put_ne (h0 (by rw [hf, hg]; simp))]; exact h
    · rw [get_put_ne (h0 (by rw [hf, hg]; simp))]; exact h
    · exact hput h

/-- one more comes up, and none behind it in the text has written its slot -/
theorem pst_more (t : Nat) (j : Nat) : ∀ (l : List Oper) (ss : List SV) (σ : Sl) (k : Nat) (f : Nat → Bool) (oj : Oper) (sj : SV), l[j]? = some oj → ss[j]? = some sj → f (k + j) = false →
    (∀ i o, l[i]? = some o → j < i → f (k + i) = true → o.dst ≠ oj.dst ∨ oj.dst = none) →
    get (put (pst σ k l ss f) oj.dst sj) t = get (pst σ k l ss (fun i => i == k + j || f i)) t := by
  induction j with
  | zero =>
    intro l ss σ k f oj sj hl hs hf hd
    match l, ss, hl, hs with
    | o :: l, s :: ss, hl, hs =>
      simp at hl hs; subst hl; subst hs
      unfold pst
      rw [Nat.add_zero] at hf
      simp only [hf, Nat.add_zero, BEq.rfl, Bool.true_or]
      by_cases ht : o.dst = some t
      · -- nothing behind writes t
        have hno : ∀ i o', l[i]? = some o' → f (k + 1 + i) = true → o'.dst ≠ some t := by
          intro i o' hi hfi
          rcases hd (i + 1) o' (by simpa using hi) (by omega) (by rw [show k + (i + 1) = k + 1 + i by omega]; exact hfi) with h | h
          · rw [ht] at h; exact h
          · rw [ht] at h; cases h
        have e1 : get (put (pst σ (k + 1) l ss f) o.dst s) t = s := by rw [ht]; simp [put, get_cons]
        have e2 := pst_congr t l ss (put σ o.dst s) (put σ o.dst s) (k + 1) (fun i => i == k || f i) (fun _ => false) rfl (fun i o' hi hne => by
          refine hno i o' hi ?_
          have : (k + 1 + i == k) = false := by simp; omega
          simpa [this] using hne)
        have e3 : ∀ (l : List Oper) (ss : List SV) (τ : Sl) (k : Nat), pst τ k l ss (fun _ => false) = τ := by
          intro l
          induction l with
          | nil => intro ss τ k; simp [pst]
          | cons o l ih => intro ss τ k; cases ss with
            | nil => simp [pst]
            | cons s ss => simp only [pst]; exact ih ss τ (k + 1)
        rw [e1, e2, e3, ht]; simp [put, get_cons]
      · rw [get_put_ne ht]
        refine pst_congr t l ss _ _ (k + 1) _ _ (get_put_ne ht).symm (fun i o' hi hne => ?_)
        have : (k + 1 + i == k) = false := by simp; omega
        simp [this] at hne
  | succ j ih =>
    intro l ss σ k f oj sj hl hs hf hd
    match l, ss, hl, hs with
    | o :: l, s :: ss, hl, hs =>
      simp at hl hs
      unfold pst
      have hk : (k == k + (j + 1)) = false := by simp
      have hkk : k + (j + 1) = k + 1 + j := by omega
      simp only [hk, Bool.false_or]
      rw [hkk]
      exact ih l ss _ (k + 1) f oj sj hl hs (by rw [← hkk]; exact hf) (fun i o' hi hlt hfi => hd (i + 1) o' (by simpa using hi) (by omega) (by rw [show k + (i + 1) = k + 1 + i by omega]; exact hfi))

/-- the walk of the text's order, as a list of what each operation yields -/
theorem alexD_run {C : Ctx} {η : List Ob} {ops : Array Oper} {K : Sl → Prop} : ∀ (l : List Oper) (σ : Sl) (k : Nat), alexD C η ops l K σ →
    ∃ ss : List SV, ss.length = l.length ∧ (∃ σ', K σ' ∧ Le σ' (pst σ k l ss (fun _ => true))) ∧
      ∀ j o s, l[j]? = some o → ss[j]? = some s → DstOk C.N o.dst ∧
        ((Wants ops (pst σ k l ss (fun i => decide (i < k + j))) o.guard true ∧ Ylds C.P η (pst σ k l ss (fun i => decide (i < k + j))) o s) ∨ (Wants ops (pst σ k l ss (fun i => decide (i < k + j))) o.guard false ∧ s = .top))
  | [], σ, k, h => by
    obtain ⟨σ', h1, h2⟩ := h
    exact ⟨[], rfl, ⟨σ', h1, by simpa [pst] using h2⟩, fun j o s hj => by simp at hj⟩
  | o :: l, σ, k, h => by
    obtain ⟨s, h1, h2, h3⟩ := h
    obtain ⟨ss, e1, e2, e3⟩ := alexD_run l _ (k + 1) h3
    refine ⟨s :: ss, by simp [e1], ?_, fun j o' s' hj hs => ?_⟩
    · unfold pst; exact e2
    · cases j with
      | zero =>
        simp at hj hs; subst hj; subst hs
        have e0 : ∀ t, get (pst σ k (o :: l) (s :: ss) (fun i => decide (i < k + 0))) t = get σ t := by
          intro t
          have := pst_congr t (o :: l) (s :: ss) σ σ k (fun i => decide (i < k + 0)) (fun _ => false) rfl (fun i o' hi hne => by simp at hne)
          rw [this]
          have e3 : ∀ (l : List Oper) (ss : List SV) (τ : Sl) (k : Nat), pst τ k l ss (fun _ => false) = τ := by
            intro l
            induction l with
            | nil => intro ss τ k; simp [pst]
            | cons o l ih => intro ss τ k; cases ss with
              | nil => simp [pst]
              | cons s ss => simp only [pst]; exact ih ss τ (k + 1)
          rw [e3]
        refine ⟨h2, ?_⟩
        rcases h1 with ⟨h1, h4⟩ | ⟨h1, h4⟩
        · exact .inl ⟨h1.congr e0, h4.congr fun x _ => oval_congr e0 x⟩
        · exact .inr ⟨h1.congr e0, h4⟩
      | succ j =>
        simp at hj hs
        have := e3 j o' s' hj hs
        have hk : k + (j + 1) = k + 1 + j := by omega
        unfold pst
        rw [hk]
        have hd : decide (k < k + 1 + j) = true := by simp; omega
        simp only [hd]
        exact this

theorem looks_operand {ops : Array Oper} {o : Oper} {t : Nat} (h : Operand.tmp t ∈ o.op.operands) : t ∈ o.looksAt ops := by
  unfold Oper.looksAt
  refine List.mem_append_left _ (List.mem_filterMap.2 ⟨.tmp t, by simpa using h, rfl⟩)

theorem looks_guard {ops : Array Oper} {o : Oper} {j t : Nat} {q : Bool} (h : o.guard = some (j, q)) (ht : (ops[j]?).bind (·.dst) = some t) : t ∈ o.looksAt ops := by
  unfold Oper.looksAt
  refine List.mem_append_right _ ?_
  rw [h]; simp [ht]

theorem setB (listed : Array Bool) (j i : Nat) (hj : j < listed.size) : (listed.setIfInBounds j true).getD i true = (i == j || listed.getD i true) := by
  simp only [Array.getD_eq_getD_getElem?, Array.getElem?_setIfInBounds]
  by_cases h : j = i
  · subst h; simp [hj]
  · have : (i == j) = false := by simp; omega
    simp [h, this]

theorem wp_draw {C : Ctx} {η : List Ob} {l : List Oper} {σ : Sl} {Q : Exit → Act → World → Prop} {K : Sl → Prop} (hQ : ∀ σ' a w, K σ' → Abs C σ' η a w → Q .normal a w) (hB : drawOk l = true) (ss : List SV) (hlen : ss.length = l.length)
    (hend : ∃ σ', K σ' ∧ Le σ' (pst σ 0 l ss (fun _ => true)))
    (hop : ∀ j o s, l[j]? = some o → ss[j]? = some s → DstOk C.N o.dst ∧
        ((Wants l.toArray (pst σ 0 l ss (fun i => decide (i < 0 + j))) o.guard true ∧ Ylds C.P η (pst σ 0 l ss (fun i => decide (i < 0 + j))) o s) ∨ (Wants l.toArray (pst σ 0 l ss (fun i => decide (i < 0 + j))) o.guard false ∧ s = .top))) :
    ∀ (fuel : Nat) (listed : Array Bool) (a : Act) (w : World), listed.size = l.length → (listed.toList.filter (! ·)).length ≤ fuel →
      (∀ j o, l[j]? = some o → listed.getD j true = true → ∀ e ∈ o.after, Region.binds .any e = true → listed.getD e.on true = true) →
      Abs C (pst σ 0 l ss (fun i => listed.getD i true)) η a w → wpAny C.P .any l.toArray Q fuel listed a w := by
  -- what the test says
  have spec : ∀ j oj, l[j]? = some oj → (∀ cs b, oj.op ≠ .select cs b) ∧ (∀ e ∈ oj.after, Region.binds .any e = true → e.on < j) ∧
      ∀ k ok, k < j → l[k]? = some ok → (∃ e ∈ oj.after, Region.binds .any e = true ∧ e.on = k) ∨ ok.apart l.toArray oj = true := by
    intro j oj hj
    have hjl : j < l.length := (List.getElem?_eq_some_iff.1 hj).1
    have := List.all_eq_true.1 hB j (List.mem_range.2 hjl)
    simp only [hj, Bool.and_eq_true] at this
    obtain ⟨⟨h1, h2⟩, h3⟩ := this
    refine ⟨fun cs b hs => (by rw [hs] at h1; cases h1), fun e he hb => ?_, fun k ok hk hok => ?_⟩
    · have := Array.all_eq_true_iff_forall_mem.1 h2 e he
      simpa [hb] using this
    · have := List.all_eq_true.1 h3 k (List.mem_range.2 hk)
      simp only [hok, Bool.or_eq_true] at this
      rcases this with h | h
      · left
        obtain ⟨i, hi, he⟩ := Array.any_eq_true.1 h
        simp only [Bool.and_eq_true, beq_iff_eq] at he
        exact ⟨_, Array.getElem_mem hi, he.1, he.2⟩
      · exact .inr h
  have full : ∀ (listed : Array Bool), listed.size = l.length → Region.ready .any l.toArray listed = [] → ∀ j, j < l.length → listed.getD j true = true := by
    intro listed hsz hr j
    induction j using Nat.strongRecOn with
    | _ j ih =>
      intro hj
      cases hc : listed.getD j true with
      | true => rfl
      | false =>
        exfalso
        have hlj : l[j]? = some l[j] := List.getElem?_eq_getElem hj
        have hm : j ∈ Region.ready .any l.toArray listed := by
          refine mem_ready.2 ⟨hc, l[j], by simp, fun e he hb => ?_⟩
          have hlt := (spec j _ hlj).2.1 e he hb
          have := ih e.on hlt (by omega)
          simp only [Array.getD_eq_getD_getElem?] at this ⊢
          rw [Array.getElem?_eq_getElem (by omega)] at this ⊢
          simpa using this
        rw [hr] at hm; cases hm
  have fin : ∀ (listed : Array Bool) (a : Act) (w : World), listed.size = l.length → Region.ready .any l.toArray listed = [] → Abs C (pst σ 0 l ss (fun i => listed.getD i true)) η a w → Q .normal a w := by
    intro listed a w hsz hr hab
    obtain ⟨σ', hk, hle⟩ := hend
    refine hQ σ' a w hk (hab.le fun t => ?_)
    rw [pst_congr t l ss σ σ 0 (fun i => listed.getD i true) (fun _ => true) rfl (fun i o hi hne => ?_)]
    · exact hle t
    · have := full listed hsz hr i (List.getElem?_eq_some_iff.1 hi).1
      rw [Nat.zero_add] at hne
      exact absurd this (by simpa using hne)
  intro fuel
  induction fuel with
  | zero =>
    intro listed a w hsz hc _ hab
    have hnil : Region.ready .any l.toArray listed = [] := by
      cases hr : Region.ready .any l.toArray listed with
      | nil => rfl
      | cons x xs =>
        exfalso
        have hx : x ∈ Region.ready .any l.toArray listed := by rw [hr]; simp
        have h0 := (mem_ready.1 hx).1
        have hxl : x < listed.size := by
          rcases Nat.lt_or_ge x listed.size with h | h
          · exact h
          · rw [Array.getD_eq_getD_getElem?, Array.getElem?_eq_none h] at h0; cases h0
        have : false ∈ listed.toList.filter (! ·) := by
          rw [List.mem_filter]
          refine ⟨?_, rfl⟩
          rw [Array.getD_eq_getD_getElem?, Array.getElem?_eq_getElem hxl] at h0
          simp at h0
          rw [← h0]; exact Array.mem_toList_iff.2 (Array.getElem_mem hxl)
        have := List.length_pos_of_mem this
        omega
    exact ⟨hnil, fin listed a w hsz hnil hab⟩
  | succ fuel ih =>
    intro listed a w hsz hc hpre hab
    refine ⟨fun hr => fin listed a w hsz hr hab, fun j hj => ?_⟩
    obtain ⟨hun, oj, hoj, hall⟩ := mem_ready.1 hj
    have hlj : l[j]? = some oj := by simpa using hoj
    have hjl : j < l.length := (List.getElem?_eq_some_iff.1 hlj).1
    obtain ⟨sj, hsj⟩ : ∃ s, ss[j]? = some s := ⟨_, List.getElem?_eq_getElem (by omega)⟩
    obtain ⟨hd, hw⟩ := hop j oj sj hlj hsj
    rw [Nat.zero_add] at hw
    obtain ⟨hsel, hlt, hpair⟩ := spec j oj hlj
    -- what it looks at is as in the text's order
    have same : ∀ t, t ∈ oj.looksAt l.toArray → get (pst σ 0 l ss (fun i => listed.getD i true)) t = get (pst σ 0 l ss (fun i => decide (i < j))) t := by
      intro t ht
      refine pst_congr t l ss σ σ 0 _ _ rfl (fun i o hi hne => ?_)
      rw [Nat.zero_add] at hne
      have hil : i < l.length := (List.getElem?_eq_some_iff.1 hi).1
      rcases Nat.lt_trichotomy i j with h | h | h
      · -- before: not listed, so apart
        have hni : listed.getD i true = false := by
          cases hc' : listed.getD i true with
          | false => rfl
          | true => exfalso; simp [hc', h] at hne
        rcases hpair i o h hi with ⟨e, he, hb, hon⟩ | hap
        · have := hall e he hb
          rw [hon] at this
          simp only [Array.getD_eq_getD_getElem?] at this hni
          rw [Array.getElem?_eq_getElem (by omega)] at this hni
          simp at this hni; rw [this] at hni; cases hni
        · intro hdt; exact (Oper.apart_spec hap).1 t hdt ht
      · subst h
        exfalso; simp [hun] at hne
      · have hli : listed.getD i true = true := by
          cases hc' : listed.getD i true with
          | true => rfl
          | false =>
            exfalso
            have hdd : decide (i < j) = false := by simp; omega
            simp only [hc', hdd] at hne
            exact hne rfl
        rcases (spec i o hi).2.2 j oj h hlj with ⟨e, he, hb, hon⟩ | hap
        · have := hpre i o hi hli e he hb
          rw [hon, hun] at this; cases this
        · intro hdt; exact (Oper.apart_spec hap).2.2 t hdt ht
    have more : ∀ t, get (put (pst σ 0 l ss (fun i => listed.getD i true)) oj.dst sj) t = get (pst σ 0 l ss (fun i => (listed.setIfInBounds j true).getD i true)) t := by
      intro t
      have h1 := pst_more t j l ss σ 0 (fun i => listed.getD i true) oj sj hlj hsj (by rw [Nat.zero_add]; exact hun) (fun i o hi hlt' hfi => by
        rw [Nat.zero_add] at hfi
        rcases (spec i o hi).2.2 j oj hlt' hlj with ⟨e, he, hb, hon⟩ | hap
        · have := hpre i o hi hfi e he hb
          rw [hon, hun] at this; cases this
        · cases hdd : oj.dst with
          | none => exact .inr rfl
          | some d => exact .inl ((Oper.apart_spec hap).2.1 d hdd))
      rw [h1]
      congr 1
      congr 1
      funext i
      rw [setB listed j i (by omega), Nat.zero_add]
    have cnt : ((listed.setIfInBounds j true).toList.filter (! ·)).length ≤ fuel := by
      have hjs : j < listed.size := by omega
      have h0 : listed[j] = false := by
        rw [Array.getD_eq_getD_getElem?, Array.getElem?_eq_getElem hjs] at hun; simpa using hun
      have e1 : listed.toList = listed.toList.take j ++ false :: listed.toList.drop (j + 1) := by
        conv => lhs; rw [← List.take_append_drop j listed.toList]
        congr 1
        rw [List.drop_eq_getElem_cons (by simpa using hjs)]
        congr 1
      have e2 : (listed.setIfInBounds j true).toList = listed.toList.take j ++ true :: listed.toList.drop (j + 1) := by
        rw [Array.toList_setIfInBounds, List.set_eq_take_append_cons_drop, if_pos (by simpa using hjs)]
      rw [e1] at hc
      rw [e2]
      simp only [List.filter_append, List.length_append, List.filter_cons, Bool.not_false, if_true, List.length_cons, Bool.not_true, Bool.false_eq_true, if_false] at hc ⊢
      omega
    have pre' : ∀ i o, l[i]? = some o → (listed.setIfInBounds j true).getD i true = true → ∀ e ∈ o.after, Region.binds .any e = true → (listed.setIfInBounds j true).getD e.on true = true := by
      intro i o hi hli e he hb
      rw [setB listed j _ (by omega)] at hli ⊢
      by_cases hij : i = j
      · subst hij
        rw [hlj] at hi; injection hi with hi; subst hi
        have h1 := hall e he hb
        have h2 : e.on < i := hlt e he hb
        simp only [Array.getD_eq_getD_getElem?] at h1 ⊢
        rw [Array.getElem?_eq_getElem (by omega)] at h1 ⊢
        simp at h1; simp [h1]
      · have hbe : (i == j) = false := by simpa using hij
        rw [hbe, Bool.false_or] at hli
        rw [hpre i o hi hli e he hb]; simp
    have next : ∀ a' w', Abs C (put (pst σ 0 l ss (fun i => listed.getD i true)) oj.dst sj) η a' w' → wpAny C.P .any l.toArray Q fuel (listed.setIfInBounds j true) a' w' :=
      fun a' w' hab' => ih _ a' w' (by simpa using hsz) cnt pre' (hab'.le fun t => .inl (more t).symm)
    obtain ⟨g, hg⟩ := hab
    unfold wpOp
    simp only [hoj]
    have gw : ∀ {b : Bool}, Wants l.toArray (pst σ 0 l ss (fun i => decide (i < j))) oj.guard b → Region.wanted oj (yielded l.toArray a.tmps) = b := fun hwb =>
      hwb.wanted (g := g) (w := w) fun t k q hgd ht => by rw [← same t (looks_guard hgd ht)]; exact hg.rep t
    rcases hw with ⟨hw, hy⟩ | ⟨hw, rfl⟩
    · rw [if_pos (gw hw)]
      refine .inl ?_
      have hy' : Ylds C.P η (pst σ 0 l ss (fun i => listed.getD i true)) oj sj := hy.congr fun x hx => by
        cases x with
        | tmp t => exact same t (looks_operand hx)
        | _ => rfl
      exact hy'.wp hd next hg
    · rw [if_neg (by rw [gw hw]; simp)]
      exact next _ _ ⟨g, hg.put hd trivial⟩

theorem awp_draw {C : Ctx} {Q : Exit → Sl → List Ob → Prop} {σ : Sl} {η : List Ob} {id : Nat} {l : List Oper} (hm : C.P.follows .mixedOrders = true) (hB : drawOk l = true) (h : alex C true l.toArray l (Q .normal) σ η) : awp C (.region id l.toArray true) Q σ η := by
  intro R hR a w ⟨g, hg⟩
  obtain ⟨ss, h1, h2, h3⟩ := alexD_run l σ 0 h
  refine wp_region_any hm (wp_draw (K := fun σ => Q .normal σ η) (fun σ' a w hk hab => hR _ _ _ _ _ hk hab) hB ss h1 h2 h3 _ _ a _ (by simp) ?_ ?_ ?_)
  · refine Nat.le_trans (List.length_filter_le _ _) (by simp)
  · intro j o hj hl
    have hjl : j < l.length := (List.getElem?_eq_some_iff.1 hj).1
    rw [Array.getD_eq_getD_getElem?, Array.getElem?_eq_getElem (by simpa using hjl)] at hl
    simp at hl
  · have hd : Abs C σ η a { w with drawn := w.drawn + 1 } := ⟨g, hg.grow ⟨rfl, rfl, rfl, rfl, rfl, rfl, rfl, Nat.le_refl _, fun _ _ => rfl, fun _ _ h => h, fun _ _ h => .inl h, hg.inv.st⟩⟩
    refine hd.le fun t => .inl ?_
    rw [pst_congr t l ss σ σ 0 _ (fun _ => false) rfl (fun i o hi hne => ?_)]
    · have e3 : ∀ (l : List Oper) (ss : List SV) (τ : Sl) (k : Nat), pst τ k l ss (fun _ => false) = τ := by
        intro l
        induction l with
        | nil => intro ss τ k; simp [pst]
        | cons o l ih => intro ss τ k; cases ss with
          | nil => simp [pst]
          | cons s ss => simp only [pst]; exact ih ss τ (k + 1)
      rw [e3]
    · exfalso
      rw [Nat.zero_add] at hne
      have hil : i < l.length := (List.getElem?_eq_some_iff.1 hi).1
      rw [Array.getD_eq_getD_getElem?, Array.getElem?_eq_getElem (by simpa using hil)] at hne
      simp at hne

end Go.Sx
