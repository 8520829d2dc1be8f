/- Texts of this claim, merged: SxAF. -/
import Derived.Test.YtamhkcnpocdfcaaGreatDoorMB
/- The engine: a call that writes to objects, in a region that draws its order, where other operands may come up ahead of it or behind it. -/
namespace Go.Sx
open Go.RowKit

theorem wipe_put (bufs all : List Nat) (σ : Sl) (d : Option Nat) (s : SV) : wipeσ bufs all (put σ d s) = put (wipeσ bufs all σ) d (s.wipe bufs all) := by cases d <;> rfl

/-- what may come up behind the call: it yields the same there -/
def floatOk (C : Ctx) (l : List Oper) (e : Nat) (η' : List Ob) (bufs ids : List Nat) : Nat → List Oper → List SV → Sl → Prop
  | j, o :: r, s :: ss, σ => (reach l.toArray l.length e j = true ∨ (o.guard = none ∧ s.wipe bufs ids = s ∧ Ylds C.P η' (wipeσ bufs ids σ) o s)) ∧ floatOk C l e η' bufs ids (j + 1) r ss (put σ o.dst s)
  | _, _, _, _ => True
theorem floatOk_at {C : Ctx} {l : List Oper} {e : Nat} {η' : List Ob} {bufs ids : List Nat} : ∀ (r : List Oper) (ss : List SV) (j : Nat) (σ : Sl), floatOk C l e η' bufs ids j r ss σ → ∀ (i : Nat) o s, r[i]? = some o → ss[i]? = some s →
    reach l.toArray l.length e (j + i) = true ∨ (o.guard = none ∧ s.wipe bufs ids = s ∧ Ylds C.P η' (wipeσ bufs ids (pst σ j r ss (fun m => decide (m < j + i)))) o s)
  | _, [], _, _, _, i, o, s, _, hs => by simp at hs
  | [], _ :: _, _, _, _, i, o, s, ho, _ => by simp at ho
  | o :: r, s :: ss, j, σ, h, 0, o', s', ho, hs => by
    simp at ho hs; subst ho; subst hs
    have e0 : ∀ t, get (pst σ j (o :: r) (s :: ss) (fun m => decide (m < j + 0))) t = get σ t := by
      intro t
      have := pst_congr t (o :: r) (s :: ss) σ σ j (fun m => decide (m < j + 0)) (fun _ => false) rfl (fun i o' hi hne => by simp at hne)
      rw [this, pst_none]
    rcases h.1 with h1 | ⟨h1, h2, h3⟩
    · exact .inl (by rw [Nat.add_zero]; exact h1)
    · exact .inr ⟨h1, h2, h3.congr fun x _ => oval_congr (fun t => by rw [get_wipe, get_wipe, e0]) x⟩
  | o :: r, s :: ss, j, σ, h, i + 1, o', s', ho, hs => by
    have := floatOk_at r ss (j + 1) _ h.2 i o' s' (by simpa using ho) (by simpa using hs)
    have hj : j + (i + 1) = j + 1 + i := by omega
    have hd : decide (j < j + 1 + i) = true := by simp; omega
    simp only [pst, hj, hd]
    exact this

theorem SArgs.congr {σ σ' : Sl} {ids : List Nat} : ∀ {xs : List Operand} {as : List SV}, SArgs σ ids xs as → (∀ x ∈ xs, oval σ' x = oval σ x) → SArgs σ' ids xs as
  | [], [], _, _ => trivial
  | x :: xs, s :: as, h, ho => ⟨by rw [ho x (by simp)]; exact h.1, SArgs.congr h.2 fun y hy => ho y (by simp [hy])⟩
  | [], _ :: _, h, _ => h.elim
  | _ :: _, [], h, _ => h.elim

theorem awp_drawF {C : Ctx} {Q : Exit → Sl → List Ob → Prop} {σ : Sl} {η : List Ob} {id : Nat} {l : List Oper} (ss : List SV) {fn : FuncId} {args : List Operand} {ts : Array TypeId} {dE : Nat} {ty : TypeId} {pos : String} {after : Array Edge} {as : List SV} {pre post : List Ob} {res : SV} (ids : List Nat)
    (hm : C.P.follows .mixedOrders = true) (hB : drawOk l = true) (hle : l[ss.length]? = some ⟨some dE, .call ⟨.value (.func fn), args.toArray, ts⟩, ty, pos, after, none⟩)
    (hbar : ss.length + 1 = l.length ∨ barOk l.toArray (l.length - (ss.length + 1) - 1) = true) (hs : segOk C l η (ss.map .y) 0 l (ss.map .y) σ)
    (hfl : floatOk C l ss.length (setAll (wipeη (bufsOf ids pre) ids η) ids (post.map (Ob.ren ids))) (bufsOf ids pre) ids 0 l ss σ)
    (hb : hasBody C.P fn = true) (hc : MCall C.P fn as pre res post) (ha : SArgs (segσ l (ss.map .y) σ) ids args as) (hp : Picks η ids pre) (hd : Nat.blt dE C.N = true)
    (hn : ids.Nodup) (hlen : ids.length = pre.length) (hu : unlaid pre = true) (hbl : pre.all (Ob.below pre.length) = true) (hba : as.all (SV.bel pre.length) = true) (hk : sameAll pre post = true) (hro : ids.all (fun i => Nat.ble C.ro i) = true)
    (h : alex C true l.toArray (l.drop (ss.length + 1)) (Q .normal) ((dE, res.ren ids) :: wipeσ (bufsOf ids pre) ids (segσ l (ss.map .y) σ)) (setAll (wipeη (bufsOf ids pre) ids η) ids (post.map (Ob.ren ids)))) : awp C (.region id l.toArray true) Q σ η := by
  intro R hR a w ⟨g, hg⟩
  have hd0 : Abs C σ η a { w with drawn := w.drawn + 1 } := ⟨g, hg.grow ⟨rfl, rfl, rfl, rfl, rfl, rfl, rfl, Nat.le_refl _, fun _ _ => rfl, fun _ _ h => h, fun _ _ h => .inl h, hg.inv.st⟩⟩
  have hel : ss.length < l.length := (List.getElem?_eq_some_iff.1 hle).1
  have hsv : (ss.map SegK.y).map SegK.sv = ss := by rw [List.map_map]; exact List.map_id ss
  have hat := segOk_at l _ 0 σ hs
  rw [hsv] at hat
  have hfa := floatOk_at l ss 0 σ hfl
  have spec := draw_spec hB
  generalize hη' : setAll (wipeη (bufsOf ids pre) ids η) ids (post.map (Ob.ren ids)) = η' at *
  let I : (Nat → Bool) → Act → World → Prop := fun f a w => match f ss.length with
    | true => Abs C (put (wipeσ (bufsOf ids pre) ids (pst σ 0 l ss f)) (some dE) (res.ren ids)) η' a w
    | false => Abs C (pst σ 0 l ss f) η a w
  refine wp_region_any hm (wp_seg (C := C) (K := Q .normal) (fun σ' η' a w hk hab => hR _ _ _ _ _ hk hab) hB (ss.length + 1) (by omega) hbar I ?_ ?_ _ _ a _ (by simp) ?_ ?_ (fun i _ hi => ?_) ?_)
  · intro f a w hf hI
    refine ⟨_, _, h, ?_⟩
    have he := hf ss.length (by omega)
    simp only [I, he] at hI
    have := segσ_pst l (ss.map .y) 0 σ f (fun i hi => by rw [Nat.zero_add]; exact hf i (by simp at hi; omega))
    rw [hsv] at this
    rw [this] at hI; exact hI
  · intro f j o a w hjm hlj hun hcl hdep hI
    rcases Nat.lt_or_ge j ss.length with hj | hj
    · -- an operand
      obtain ⟨s, hsj⟩ : ∃ s, ss[j]? = some s := ⟨_, List.getElem?_eq_getElem hj⟩
      have hkj : (ss.map SegK.y)[j]? = some (.y s) := by rw [List.getElem?_map, hsj]; rfl
      obtain ⟨hdst, hw, hy⟩ := hat j o _ hlj hkj
      rw [Nat.zero_add] at hw hy
      have same := pst_same (σ := σ) (ss := ss) hB hlj hun hcl hdep
      have next := pst_next (σ := σ) hB hlj hsj hun hcl
      have hne : (ss.length == j) = false := by simp; omega
      cases he : f ss.length with
      | false =>
        simp only [I, he] at hI
        obtain ⟨g, h1⟩ := hI
        have hI' : ∀ a' w', Abs C (put (pst σ 0 l ss f) o.dst s) η a' w' → I (fun i => i == j || f i) a' w' := fun a' w' hab => by
          simp only [I, hne, he, Bool.or_false]; exact hab.le fun t => .inl (next t).symm
        refine .inl ⟨hw.wanted (g := g) (w := w) fun t q b hgd ht => by rw [← same t (looks_guard hgd ht)]; exact h1.rep t, ?_⟩
        have hy' : Ylds C.P η (pst σ 0 l ss f) o s := hy.congr fun x hx => by
          cases x with
          | tmp t => exact same t (looks_operand hx)
          | _ => rfl
        exact hy'.wp hdst hI' h1
      | true =>
        simp only [I, he] at hI
        obtain ⟨g, h1⟩ := hI
        have hcl' : ∀ j o, l.toArray[j]? = some o → f j = true → ∀ e ∈ o.after, Region.binds .any e = true → f e.on = true := fun j o ho => hcl j o (by simpa using ho)
        have hnr : reach l.toArray l.length ss.length j = false := by
          cases hr : reach l.toArray l.length ss.length j with
          | false => rfl
          | true =>
            have := reach_listed hcl' l.length ss.length _ (by simpa using hle) (fun e hm hb => hcl _ _ hle he e hm hb) hr
            rw [hun] at this; cases this
        rcases hfa j o s hlj hsj with h2 | ⟨h2, h3, h4⟩
        · rw [Nat.zero_add, hnr] at h2; cases h2
        · rw [Nat.zero_add] at h4
          -- the call and it don't look at each other
          have hap : o.apart l.toArray ⟨some dE, .call ⟨.value (.func fn), args.toArray, ts⟩, ty, pos, after, none⟩ = true := by
            rcases (spec ss.length _ hle).2.2 j o hj hlj with ⟨e, hm, hb, hon⟩ | hap
            · have := hcl _ _ hle he e hm hb
              rw [hon, hun] at this; cases this
            · exact hap
          obtain ⟨p1, p2, p3⟩ := Oper.apart_spec hap
          have same' : ∀ t, t ∈ o.looksAt l.toArray → get (put (wipeσ (bufsOf ids pre) ids (pst σ 0 l ss f)) (some dE) (res.ren ids)) t = get (wipeσ (bufsOf ids pre) ids (pst σ 0 l ss (fun m => decide (m < j)))) t := fun t ht => by
            have hne : (some dE : Option Nat) ≠ some t := fun e => p3 dE rfl (by injection e with e; rw [e]; exact ht)
            rw [get_put_ne hne, get_wipe, get_wipe, same t ht]
          refine .inl ⟨by unfold Region.wanted; rw [h2], ?_⟩
          have hy' : Ylds C.P η' (put (wipeσ (bufsOf ids pre) ids (pst σ 0 l ss f)) (some dE) (res.ren ids)) o s := h4.congr fun x hx => by
            cases x with
            | tmp t => exact same' t (looks_operand hx)
            | _ => rfl
          refine hy'.wp hdst (fun a' w' hab => ?_) h1
          simp only [I, hne, he, Bool.or_true]
          refine hab.le fun t => .inl ?_
          have hn2 := next t
          cases hdd : o.dst with
          | none =>
            rw [hdd] at hn2
            simp only [put, get_cons] at hn2 ⊢
            split
            · rfl
            · rw [get_wipe, get_wipe, hn2]
          | some d =>
            have hne2 : d ≠ dE := fun e => p2 d hdd (by rw [e])
            rw [hdd] at hn2
            simp only [put, get_cons] at hn2 ⊢
            by_cases h5 : dE = t
            · subst h5; rw [if_pos rfl, if_neg hne2, if_pos rfl]
            · rw [if_neg h5, get_wipe, ← hn2]
              by_cases h6 : d = t
              · rw [if_pos h6, if_pos h6, h3]
              · rw [if_neg h6, if_neg h6, if_neg h5, get_wipe]
    · -- the call
      have hje : j = ss.length := by omega
      subst hje
      rw [hle] at hlj; injection hlj with hlj; subst hlj
      simp only [I, hun] at hI
      obtain ⟨g, h1⟩ := hI
      refine .inl ⟨rfl, ?_⟩
      have same := pst_same (σ := σ) (ss := ss) hB hle hun hcl hdep
      have hfull := segσ_pst l (ss.map .y) 0 σ (fun m => decide (m < ss.length)) (fun i hi => by simp at hi ⊢; omega)
      rw [hsv] at hfull
      have ha' : SArgs (pst σ 0 l ss f) ids args as := by
        have hop : ∀ x ∈ args, oval (pst σ 0 l ss f) x = oval (segσ l (ss.map .y) σ) x := fun x hx => by
          cases x with
          | tmp t =>
            rw [← hfull]
            exact same t (looks_operand (by simp [Op.operands, Call.operands, hx]))
          | _ => rfl
        exact ha.congr hop
      obtain ⟨e1, e2⟩ := ha'.rep h1
      unfold Oper.wp
      have hrun : (execOp a.eval ⟨some dE, .call ⟨.value (.func fn), args.toArray, ts⟩, ty, pos, after, none⟩).run C.P w = .ok (.enter fn (args.map a.eval).toArray) w := by
        simp only [execOp, resolve, Act.eval, Deferred.ofValue, invoke, Sem.run_bind, Sem.run_pure, Result.andThen_ok, List.map_toArray, Array.empty_append, Array.append_empty]
        exact hasBody_run hb
      rw [hrun, Oper.upon_enter]
      have hr := RepSs.callee (g := g) (w := w) hlen (args.map a.eval) as e2 (by simp [e1]) hba
      refine (hc (calleeG g ids) w _ (h1.inv.callee hn hlen hp hu hbl) hr).mono fun e w' ⟨v, g', he, hI, hres, hF⟩ => ?_
      subst he
      obtain ⟨hk1, hk2⟩ := sameAll_same hk
      obtain ⟨g2, q1, q2⟩ := h1.called hn hlen hp hk1 hro hI hres hF
      obtain ⟨e3, e4⟩ := ηOf_same (ids := ids) (η := η) hk2
      rw [e3, hη'] at q1; rw [e4] at q2
      have hbeq : (ss.length == ss.length) = true := by simp
      simp only [I, hbeq, Bool.true_or]
      have hpst : pst σ 0 l ss (fun i => i == ss.length || f i) = pst σ 0 l ss f := by
        have : ∀ (r : List Oper) (ss2 : List SV) (τ : Sl) (k : Nat), k + ss2.length ≤ ss.length → pst τ k r ss2 (fun i => i == ss.length || f i) = pst τ k r ss2 f := by
          intro r
          induction r with
          | nil => intro ss2 τ k _; cases ss2 <;> rfl
          | cons o r ih =>
            intro ss2 τ k hk
            cases ss2 with
            | nil => rfl
            | cons s ss2 =>
              have : (k == ss.length) = false := by simp at hk ⊢; omega
              simp only [pst, this, Bool.false_or]
              exact ih ss2 _ (k + 1) (by simp at hk; omega)
        exact this l ss σ 0 (by omega)
      rw [hpst]
      exact ⟨g2, q1.put (d := some dE) hd q2⟩
  · refine Nat.le_trans (List.length_filter_le _ _) (by simp)
  · intro j o hj hl
    have hjl : j < l.length := (List.getElem?_eq_some_iff.1 hj).1
    rw [Array.getD_eq_getD_getElem?, Array.getElem?_eq_getElem (by simpa using hjl)] at hl
    simp at hl
  · rw [Array.getD_eq_getD_getElem?, Array.getElem?_eq_getElem (by simpa using hi)]
    simp
  · have hf0 : ∀ i, i < l.length → (Array.replicate l.toArray.size false).getD i true = false := fun i hi => by
      rw [Array.getD_eq_getD_getElem?, Array.getElem?_eq_getElem (by simpa using hi)]; simp
    simp only [I, hf0 _ hel]
    refine hd0.le fun t => .inl ?_
    rw [pst_congr t l ss σ σ 0 _ (fun _ => false) rfl (fun i o hi hne => ?_), pst_none]
    rw [Nat.zero_add, hf0 i (List.getElem?_eq_some_iff.1 hi).1] at hne
    exact absurd rfl hne
end Go.Sx
