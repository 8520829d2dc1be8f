/- The engine: append; rows made and written; slices of slices. -/
import Derived.Test.YtbegnjhfhnaagaaDoorSxH
namespace Go.Sx
open Go.RowKit

section
variable {C : Ctx} {ops : Array Oper} {rest : List Oper} {K : Sl → List Ob → Prop} {σ : Sl} {η : List Ob} {d : Nat} {ty : TypeId} {pos : String} {after : Array Edge} {gd : Option (Nat × Bool)} {t : TypeId} {x y : Operand}

/-- A ROW TURNS. -/
theorem AbsG.setBuf {g : Gh} {a : Act} {w w' : World} (h : AbsG C g σ η a w) {id e sz cap' : Nat} {mu mu' : Bool} {xs xs' : List D} {ob' : Option Nat} {St' : Stab} (hid : η[id]? = some (.buf mu e sz xs)) (hro : C.ro ≤ id)
    (os : w'.os = w.os) (tape : w'.tape = w.tape) (output : w'.output = w.output) (size : w.heap.size ≤ w'.heap.size) (heap : ∀ k, k < w.heap.size → g.blk id ≠ some k → w'.heap[k]? = w.heap[k]?)
    (hnew : ∀ b, ob' = some b → (g.blk id = some b ∨ w.heap.size ≤ b) ∧ b < w'.heap.size) (kp : Keep g.St w St' w') (new : ∀ b o, St' b o → g.St b o ∨ ob' = some b) (lt : ∀ b o, St' b o → b < w'.heap.size)
    (ok : ObOk { g with St := St', blk := upd g.blk id ob', cap := upd g.cap id cap' } w' id (.buf mu' e sz xs')) :
    AbsG C { g with St := St', blk := upd g.blk id ob', cap := upd g.cap id cap' } (killσ id σ) ((killη id η).set id (.buf mu' e sz xs')) a w' := by
  have hidl : id < η.length := (List.getElem?_eq_some_iff.1 hid).1
  have hn := h.inv.n
  have hsame : ∀ i, i ≠ id → ({ g with St := St', blk := upd g.blk id ob', cap := upd g.cap id cap' } : Gh).blk i = g.blk i ∧ ({ g with St := St', blk := upd g.blk id ob', cap := upd g.cap id cap' } : Gh).cap i = g.cap i ∧ ({ g with St := St', blk := upd g.blk id ob', cap := upd g.cap id cap' } : Gh).sz i = g.sz i :=
    fun i hi => ⟨by simp [upd, hi], by simp [upd, hi], rfl⟩
  have hblk : ∀ i b, upd g.blk id ob' i = some b → (i ≠ id ∧ g.blk i = some b) ∨ (i = id ∧ (g.blk id = some b ∨ w.heap.size ≤ b) ∧ b < w'.heap.size) := by
    intro i b hb
    unfold upd at hb
    split at hb
    · rename_i e; exact .inr ⟨e, hnew b hb⟩
    · rename_i e; exact .inl ⟨e, hb⟩
  have ro : ∀ {v : Value} {s : SV}, RepS g w v s → RepS { g with St := St', blk := upd g.blk id ob', cap := upd g.cap id cap' } w' v (s.kill id) := fun r => r.other kp hsame rfl
  have hother : ∀ i b, i ≠ id → g.blk i = some b → w'.heap[b]? = w.heap[b]? ∧ ∀ o, St' b o ↔ g.St b o := by
    intro i b hi hb
    have hbl := h.inv.lt i b hb
    refine ⟨heap b hbl (fun e => hi (h.inv.inj i id b hb e)), fun o => ⟨fun ho => ?_, kp.sub b o⟩⟩
    rcases new b o ho with h1 | h1
    · exact h1
    · rcases (hnew b h1).1 with h2 | h2
      · exact absurd (h.inv.inj i id b hb h2) hi
      · omega
  refine ⟨h.defers, h.size, ⟨by rw [List.length_set, killη_len]; exact hn, fun i b hb => ?_, fun i hi => ?_, fun i j b hi hj => ?_, fun i o ho => ?_, lt, h.inv.gl.keep kp⟩, os.trans h.os, tape.trans h.tape, output.trans h.output, Nat.le_trans h.wsize size, fun k hk hx => ?_, h.keep.trans kp, fun b o hb => ?_, fun i b hb hr => ?_, fun t => ?_⟩
  · rcases hblk i b hb with ⟨_, h1⟩ | ⟨_, _, h1⟩
    · exact Nat.lt_of_lt_of_le (h.inv.lt i b h1) size
    · exact h1
  · have hne : i ≠ id := by have : g.n ≤ i := hi; omega
    show upd g.blk id ob' i = none
    simp only [upd, if_neg hne]
    exact h.inv.dead i hi
  · rcases hblk i b hi with ⟨h1, h2⟩ | ⟨h1, h2, _⟩ <;> rcases hblk j b hj with ⟨h3, h4⟩ | ⟨h3, h4, _⟩
    · exact h.inv.inj i j b h2 h4
    · rcases h4 with h4 | h4
      · exact absurd (h.inv.inj i id b h2 h4) h1
      · exact absurd (h.inv.lt i b h2) (by omega)
    · rcases h2 with h2 | h2
      · exact absurd (h.inv.inj j id b h4 h2) h3
      · exact absurd (h.inv.lt j b h4) (by omega)
    · omega
  · rw [List.getElem?_set] at ho
    split at ho
    · rename_i e; subst e
      rw [if_pos (by rw [killη_len]; exact hidl)] at ho
      injection ho with ho; subst ho; exact ok
    · rename_i e
      have e : i ≠ id := fun h => e h.symm
      rw [killη_get] at ho
      cases hq : η[i]? with
      | none => simp [hq] at ho
      | some o0 =>
        simp [hq] at ho; subst ho
        have := h.inv.ob i o0 hq
        cases o0 with
        | box cs =>
          obtain ⟨b, e1, us, h1, h2, h3, h4, h5, h6⟩ := this
          obtain ⟨k1, k2⟩ := hother i b e h1
          refine ⟨b, e1, us, by rw [(hsame i e).1]; exact h1, k1.trans h2, by simpa using h3, h4, fun j u s hu hs => ?_, fun o ho => h6 o ((k2 o).1 ho)⟩
          rw [List.getElem?_map] at hs
          cases hc : cs[j]? with
          | none => simp [hc] at hs
          | some s0 => simp [hc] at hs; subst hs; exact ro (h5 j u s0 hu hc)
        | buf mu2 e2 sz2 ys =>
          obtain ⟨h1, h2, h3, h4, h5⟩ := this
          refine ⟨h1, h2, by rw [(hsame i e).2.1]; exact h3, by rw [(hsame i e).2.1]; exact h4, ?_⟩
          rcases h5 with h5 | ⟨b, us, h5, h6, h7, h8, h9, h10⟩
          · exact .inl (by rw [(hsame i e).1, (hsame i e).2.1]; exact h5)
          · obtain ⟨k1, k2⟩ := hother i b e h5
            exact .inr ⟨b, us, by rw [(hsame i e).1]; exact h5, k1.trans h6, by rw [(hsame i e).2.1]; exact h7, h8, fun j u d hu hd => (h9 j u d hu hd).keep kp, fun o => (k2 o).trans (h10 o)⟩
        | iter s pos =>
          obtain ⟨b, h1, h2, h3⟩ := this
          obtain ⟨k1, k2⟩ := hother i b e h1
          exact ⟨b, by rw [(hsame i e).1]; exact h1, k1.trans h2, fun o ho => h3 o ((k2 o).1 ho)⟩
        | gone => trivial
  · rw [heap k (Nat.lt_of_lt_of_le hk h.wsize) (fun e => ?_)]
    · exact h.heap k hk hx
    · rcases h.own id k e hro with h1 | h1
      · omega
      · exact hx h1
  · rcases new b o hb with h1 | h1
    · exact h.new b o h1
    · rcases (hnew b h1).1 with h2 | h2
      · exact (h.own id b h2 hro).elim (fun h => .inr (.inl h)) (fun h => .inr (.inr h))
      · exact .inr (.inl (Nat.le_trans h.wsize h2))
  · rcases hblk i b hb with ⟨h1, h2⟩ | ⟨h1, h2, _⟩
    · exact h.own i b h2 hr
    · subst h1
      rcases h2 with h2 | h2
      · exact h.own i b h2 hr
      · exact .inl (Nat.le_trans h.wsize h2)
  · rw [get_kill]; exact ro (h.rep t)

def zeroLen (P : Program) (e : TypeId) : Option Nat := (zeroOf P e).map List.length

theorem zeroLen_some {P : Program} {e sz : Nat} {i : TypeInfo} (hi : P.info? e = some i) (h : zeroLen P e = some sz) : ∃ z, i.zero = some z ∧ z.cells.size = sz := by
  unfold zeroLen zeroOf at h
  rw [hi] at h
  cases hq : i.zero with
  | none => simp [hq] at h
  | some z =>
    simp only [hq] at h
    split at h
    · simp at h; exact ⟨z, rfl, h⟩
    · cases h

theorem flats_append (xs ys : List D) : flats (xs ++ ys) = flats xs ++ flats ys := by simp [flats]

theorem aApp0 {id n m e sz by' : Nat} {mu : Bool} {xs ys : List D} (hx : oval σ x = .buf id n) (ho : η[id]? = some (.buf mu e sz xs)) (hn : n ≤ xs.length) (hmu : mu = false → n = xs.length) (hy : Co η (oval σ y) (.slice ys)) (hm : m = ys.length)
    (he : elemTy C.P t = some e) (hs : elemSize C.P t = some sz) (hz : zeroLen C.P e = some sz) (hb : bytesOf C.P t = some by') (hf : ∀ d ∈ ys, d.flat.length = sz) (hlen : (n + m) * by' ≤ 140737488355328) (hlen2 : n + m ≤ 140737488355328) (hd : Nat.blt d C.N = true) (hro : Nat.ble C.ro id = true)
    (h : alex C false ops rest K ((d, .buf id (n + m)) :: killσ id σ) ((killη id η).set id (.buf mu e sz (xs.take n ++ ys)))) :
    astep C false ops ⟨some d, .call ⟨.builtin .append, #[x, y], #[t, t]⟩, ty, pos, after, gd⟩ rest K σ η := by
  subst hm
  refine estep (fun g a w ha => ?_) h
  obtain ⟨e', i, hu, hi, hsz⟩ := elemSize_some hs
  have : e' = e := by have := elemTy_some he; rw [hu] at this; injection this with this; injection this
  subst this
  have hby : i.bytes = by' := by
    obtain ⟨e2, i2, h1, h2, h3⟩ := bytesOf_some hb
    rw [hu] at h1; injection h1 with h1; injection h1 with h1; subst h1
    rw [hi] at h2; injection h2 with h2; subst h2; exact h3
  obtain ⟨z, hzz, hzs⟩ := zeroLen_some hi hz
  have hro := Nat.le_of_ble_eq_true hro
  have hxr := ha.eval x; rw [hx] at hxr
  obtain ⟨hidn, hxv⟩ := hxr
  have hyr := (hy.rep ha.inv (ha.eval y)).open_slice hf
  obtain ⟨sa, sc, news, hyv, _, _, hnl, hn1, hncell, hnrep⟩ := hyr
  obtain ⟨o1, o2, o3, o4, o5⟩ := ha.inv.ob id _ ho
  have hgsz : g.sz id = sz := o1
  have hob : (g.blk id = none ∧ g.cap id = 0 ∧ n = 0) ∨ ∃ b us, g.blk id = some b ∧ w.heap[b]? = some (.cells us e' (0, 0)) ∧ us.size = g.cap id * sz ∧
        (∀ (j : Nat) (u : Value), j < xs.length * sz → us[j]? = some u → u.oneCell' = true) ∧ (∀ (j : Nat) (u : Value) (d : D), us[j]? = some u → (flats xs)[j]? = some d → RepD g.St w u d) ∧ ∀ o, g.St b o ↔ (mu = false ∧ o < xs.length * sz) := by
    rcases o5 with ⟨h1, h2⟩ | ⟨b, us, h1, h2, h3, h4, h5, h6⟩
    · exact .inl ⟨h1, h2, by omega⟩
    · exact .inr ⟨b, us, h1, h2, h3, h4, h5, h6⟩
  have hus0 : ∃ us : Array Value, (g.blk id = none ∧ g.cap id = 0 ∧ n = 0) ∨ ∃ b, g.blk id = some b ∧ w.heap[b]? = some (.cells us e' (0, 0)) ∧ us.size = g.cap id * i.size ∧ n ≤ g.cap id := by
    rcases hob with h1 | ⟨b, us, h1, h2, h3, _⟩
    · exact ⟨#[], .inl h1⟩
    · exact ⟨us, .inr ⟨b, h1, h2, by rw [h3, hsz], by omega⟩⟩
  obtain ⟨us, hus⟩ := hus0
  have hnews : 0 < ys.length → ∃ ad, sa = some ad ∧ ∀ (j : Nat) (u : Value), news[j]? = some u → w.cell? (ad.add j) = some u := fun h0 => by
    obtain ⟨ad, h1, h2⟩ := hncell h0
    exact ⟨ad, h1, fun j u hj => (h2 j u hj).2⟩
  obtain ⟨ob', cap', w', hrun, hcap, hcm, wos, wtape, wout, wsz, hres⟩ := run_append_sx w t ty e' i z hu hi hzz (by rw [hzs, hsz]) (g.blk id) n (g.cap id) us hus sa ys.length sc news (by rw [hnl, hsz]) hnews hn1 (by rw [hby]; exact hlen) (by simp only [maxLen]; omega) o3
  rw [hsz] at hres
  let St' : Stab := fun b o => g.St b o ∨ (ob' = some b ∧ mu = false ∧ o < (n + ys.length) * sz)
  have hflx : (flats (xs.take n)).length = n * sz := by rw [flats_len (fun d hd => o2 d (List.mem_of_mem_take hd)), List.length_take]; congr 1; omega
  have hfly : (flats ys).length = ys.length * sz := flats_len hf
  -- the heap away from the row
  have hheap : ∀ k, k < w.heap.size → g.blk id ≠ some k → w'.heap[k]? = w.heap[k]? := by
    intro k hk hne
    rcases hres with ⟨_, _, _, _, rfl⟩ | ⟨b', us', rfl, _, _, _, _, _, h1 | h1⟩
    · rfl
    · exact h1.2 k (fun e => hne (by rw [h1.1, e]))
    · exact h1.2 k hk
  have hkeep : Keep g.St w St' w' := by
    refine ⟨fun _ _ h => .inl h, fun b o u hb hu => ?_, fun b hb => hheap b (ha.inv.st b 0 (hb 0)) fun hbb => ?_⟩
    rotate_left
    · rcases hob with ⟨h1, _⟩ | ⟨b0, us0, h1, h2, h3, h4, h5, h6⟩
      · rw [h1] at hbb; cases hbb
      · rw [h1] at hbb; injection hbb with hbb; subst hbb
        have := (h6 _).1 (hb (xs.length * sz)); omega
    by_cases hbb : g.blk id = some b
    · rcases hob with ⟨h1, _⟩ | ⟨b0, us0, h1, h2, h3, h4, h5, h6⟩
      · rw [h1] at hbb; cases hbb
      · rw [h1] at hbb; injection hbb with hbb; subst hbb
        have hus' : us = us0 := by
          rcases hus with ⟨q, _⟩ | ⟨b2, q1, q2, _⟩
          · rw [h1] at q; cases q
          · rw [h1] at q1; injection q1 with q1; subst q1; rw [h2] at q2; injection q2 with q2; injection q2 with q2; exact q2.symm
        subst hus'
        have hol := (h6 o).1 hb
        have hnx := hmu hol.1
        rw [cell_of_row w b0 o us e' (0, 0) h2] at hu
        rcases hres with ⟨_, _, _, q, _⟩ | ⟨b', us', rfl, q1, q2, q3, q4, q5, q6 | q6⟩
        · rw [h1] at q; cases q
        · rw [h1] at q6; obtain ⟨q6, _⟩ := q6; injection q6 with q6; subst q6
          rw [cell_of_row w' b0 o us' e' (0, 0) q1, q4 o (by rw [hnx]; exact hol.2)]; exact hu
        · rw [World.cell?_of_block (w := w) (a := ⟨b0, o, none⟩) (q6.2 b0 (ha.inv.lt id b0 h1)), cell_of_row w b0 o us e' (0, 0) h2]; exact hu
    · exact (World.cell?_of_block (w := w) (a := ⟨b, o, none⟩) (hheap b (ha.inv.st b o hb) hbb)).trans hu
  have hab := ha.setBuf (w' := w') (ob' := ob') (cap' := cap') (mu' := mu) (xs' := xs.take n ++ ys) (St' := St') ho hro wos wtape wout wsz hheap
    (fun b hb => by
      rcases hres with ⟨q, _⟩ | ⟨b', us', q0, q1, q2, q3, q4, q5, q6 | q6⟩
      · rw [q] at hb; cases hb
      · rw [q0] at hb; injection hb with hb; subst hb; exact ⟨.inl q6.1, q3⟩
      · rw [q0] at hb; injection hb with hb; subst hb; exact ⟨.inr q6.1, q3⟩) hkeep
    (fun b o hb => hb.imp_right (·.1))
    (fun b o hb => by
      rcases hb with hb | ⟨hb, _⟩
      · exact Nat.lt_of_lt_of_le (ha.inv.st b o hb) wsz
      · rcases hres with ⟨q, _⟩ | ⟨b', us', q0, q1, q2, q3, _⟩
        · rw [q] at hb; cases hb
        · rw [q0] at hb; injection hb with hb; subst hb; exact q3)
    ⟨hgsz, fun d hd => by
        rcases List.mem_append.1 hd with hd | hd
        · exact o2 d (List.mem_of_mem_take hd)
        · exact hf d hd, by simpa [upd] using hcm, by simp [upd]; omega, by
      rcases hres with ⟨q, q1, q2, _⟩ | ⟨b', us', q0, q1, q2, q3, q4, q5, q6⟩
      · exact .inl ⟨by simp [upd, q], by simp [upd, q1]⟩
      · have hlen' : (xs.take n ++ ys).length = n + ys.length := by simp; omega
        -- each cell of the new row
        have cellsOf : ∀ j u, j < (n + ys.length) * sz → us'[j]? = some u → u.oneCell' = true ∧ ∀ d, (flats (xs.take n ++ ys))[j]? = some d → RepD g.St w u d := by
          intro j u hj hu
          rw [flats_append]
          rcases Nat.lt_or_ge j (n * sz) with hj2 | hj2
          · rw [q4 j hj2] at hu
            rcases hob with ⟨_, _, h0⟩ | ⟨b0, us0, h1, h2, h3, h4, h5, h6⟩
            · subst h0; omega
            · have hus' : us = us0 := by
                rcases hus with ⟨q, _⟩ | ⟨b2, q1, q2, _⟩
                · rw [h1] at q; cases q
                · rw [h1] at q1; injection q1 with q1; subst q1; rw [h2] at q2; injection q2 with q2; injection q2 with q2; exact q2.symm
              subst hus'
              refine ⟨h4 j u (Nat.lt_of_lt_of_le hj2 (Nat.mul_le_mul_right _ hn)) hu, fun d hd => h5 j u d hu ?_⟩
              rw [List.getElem?_append_left (by rw [hflx]; exact hj2), flats_take o2, List.getElem?_take, if_pos hj2] at hd
              exact hd
          · obtain ⟨j', rfl⟩ : ∃ j', j = n * sz + j' := ⟨j - n * sz, by omega⟩
            rw [Nat.add_mul] at hj
            rw [q5 j' (by omega)] at hu
            refine ⟨hn1 u (List.mem_of_getElem? hu), fun d hd => hnrep j' u d hu ?_⟩
            rw [List.getElem?_append_right (by rw [hflx]; omega), hflx, Nat.add_sub_cancel_left] at hd
            exact hd
        refine .inr ⟨b', us', by simp [upd, q0], q1, by simpa [upd] using q2, fun j u hj hu => (cellsOf j u (by rw [← hlen']; exact hj) hu).1, fun j u d hu hd => ?_, fun o => ⟨fun hb => ?_, fun hb => .inr ⟨q0, hb.1, by rw [← hlen']; exact hb.2⟩⟩⟩
        · have hjl : j < (n + ys.length) * sz := by
            have := (List.getElem?_eq_some_iff.1 hd).1
            rw [flats_append, List.length_append, hflx, hfly, ← Nat.add_mul] at this; exact this
          exact ((cellsOf j u hjl hu).2 d hd).keep hkeep
        · rw [hlen']
          rcases hb with hb | ⟨_, hb⟩
          · rcases q6 with q6 | q6
            · rcases hob with ⟨h1, _⟩ | ⟨b0, us0, h1, h2, h3, h4, h5, h6⟩
              · rw [q6.1] at h1; cases h1
              · rw [q6.1] at h1; injection h1 with h1; subst h1
                obtain ⟨r1, r2⟩ := (h6 o).1 hb
                refine ⟨r1, ?_⟩
                rw [← hmu r1] at r2
                rw [Nat.add_mul]; omega
            · exact absurd (ha.inv.st b' o hb) (by omega)
          · exact hb⟩
  refine ⟨.slice (ob'.map (⟨·, 0, none⟩)) (n + ys.length) cap', w', ?_, _, hab.put (d := some d) hd ⟨hidn, ?_⟩⟩
  · simp only [execOp, resolve, invoke, builtin, Sem.run_bind, Sem.run_pure, Result.andThen_ok, List.map_toArray, List.map_cons, List.map_nil, hxv, hyv, hrun]
  · show _ = Value.slice ((upd g.blk id ob' id).map _) _ (upd g.cap id cap' id)
    simp [upd]

/-- append, the whole row and some more -/
theorem aApp {id n m e sz by' : Nat} {mu : Bool} {xs ys : List D} (hx : oval σ x = .buf id n) (ho : η[id]? = some (.buf mu e sz xs)) (hy : Co η (oval σ y) (.slice ys)) (hn : n = xs.length) (hm : m = ys.length)
    (he : elemTy C.P t = some e) (hs : elemSize C.P t = some sz) (hz : zeroLen C.P e = some sz) (hb : bytesOf C.P t = some by') (hd : Nat.blt d C.N = true) (hro : Nat.ble C.ro id = true) (hf : ∀ d ∈ ys, d.flat.length = sz) (hlen : (n + m) * by' ≤ 140737488355328 ∧ n + m ≤ 140737488355328)
    (h : alex C false ops rest K ((d, .buf id (n + m)) :: killσ id σ) ((killη id η).set id (.buf mu e sz (xs ++ ys)))) :
    astep C false ops ⟨some d, .call ⟨.builtin .append, #[x, y], #[t, t]⟩, ty, pos, after, gd⟩ rest K σ η :=
  aApp0 hx ho (by omega) (fun _ => hn) hy hm he hs hz hb hf hlen.1 hlen.2 hd hro (by rw [hn, List.take_length, ← hn]; exact h)

/-! ### ghosts: a nil slice becomes a row; a row is let be -/
theorem awp_newbuf {Q : Exit → Sl → List Ob → Prop} {c : Code} (t : Nat) (mu : Bool) (e sz : Nat) (ht : get σ t = .nil) (hro : Nat.ble C.ro η.length = true) (h : awp C c Q ((t, .buf η.length 0) :: σ) (η ++ [.buf mu e sz []])) : awp C c Q σ η := by
  intro R hR a w ⟨g, ha⟩
  refine h R hR a w ?_
  have hn := ha.inv.n
  let g' : Gh := { g with blk := upd g.blk g.n none, cap := upd g.cap g.n 0, sz := upd g.sz g.n sz, n := g.n + 1 }
  have hold : ∀ id, id < g.n → g'.blk id = g.blk id ∧ g'.cap id = g.cap id ∧ g'.sz id = g.sz id := fun id hid => by simp [g', upd, Nat.ne_of_lt hid]
  have hab := ha.newOb (g' := g') (w' := w) (.buf mu e sz []) rfl rfl rfl (Nat.le_refl _) (fun _ _ => rfl) rfl hold (fun id hid => by
      have hne : id ≠ g.n := by omega
      simp only [g', upd, if_neg hne]
      exact ha.inv.dead id (by omega)) (fun b hb => by simp [g', upd] at hb) (fun _ _ h => h) (fun _ _ h => .inl h) ha.inv.st (by rw [hn]; exact Nat.le_of_ble_eq_true hro)
    ⟨by simp [g', upd], by simp, by simp [g', upd], by simp, .inl ⟨by simp [g', upd], by simp [g', upd]⟩⟩
  refine ⟨g', { hab with rep := fun u => ?_ }⟩
  rw [get_cons]
  split
  · rename_i e; subst e
    have := ha.rep t; rw [ht] at this
    refine ⟨by show η.length < g.n + 1; omega, ?_⟩
    rw [this, ← hn]; simp [g', upd]
  · exact hab.rep u

/-- what the row holds stays from now on -/
theorem awp_freeze {Q : Exit → Sl → List Ob → Prop} {c : Code} (id : Nat) {mu : Bool} {e sz : Nat} {xs : List D} (ho : η[id]? = some (.buf mu e sz xs)) (hro : Nat.ble C.ro id = true) (h : awp C c Q σ (η.set id (.buf false e sz xs))) : awp C c Q σ η := by
  intro R hR a w ⟨g, ha⟩
  refine h R hR a w ?_
  have hidl : id < η.length := (List.getElem?_eq_some_iff.1 ho).1
  have hro := Nat.le_of_ble_eq_true hro
  obtain ⟨o1, o2, o3, o4, o5⟩ := ha.inv.ob id _ ho
  let g' : Gh := { g with St := fun b o => g.St b o ∨ (g.blk id = some b ∧ o < xs.length * sz) }
  have kp : Keep g.St w g'.St w := ⟨fun _ _ h => .inl h, fun _ _ _ _ h => h, fun _ _ => rfl⟩
  have re : ∀ {v : Value} {s : SV}, RepS g w v s → RepS g' w v s := fun r => r.ext kp (fun _ _ => ⟨rfl, rfl, rfl⟩) (Nat.le_refl _)
  have lt : ∀ b o, g'.St b o → b < w.heap.size := fun b o hb => by
    rcases hb with hb | ⟨hb, _⟩
    · exact ha.inv.st b o hb
    · exact ha.inv.lt id b hb
  refine ⟨g', ha.defers, ha.size, ⟨by rw [List.length_set]; exact ha.inv.n, ha.inv.lt, ha.inv.dead, ha.inv.inj, fun i o hi => ?_, lt, ha.inv.gl.keep kp⟩, ha.os, ha.tape, ha.output, ha.wsize, ha.heap, ha.keep.trans kp, fun b o hb => ?_, ha.own, fun t => re (ha.rep t)⟩
  · rw [List.getElem?_set] at hi
    split at hi
    · rename_i e; subst e
      try rw [if_pos hidl] at hi
      injection hi with hi; subst hi
      refine ⟨o1, o2, o3, o4, ?_⟩
      rcases o5 with o5 | ⟨b, us, h1, h2, h3, h4, h5, h6⟩
      · exact .inl o5
      · refine .inr ⟨b, us, h1, h2, h3, h4, fun j u d hu hd => (h5 j u d hu hd).keep kp, fun o => ⟨fun hb => ?_, fun hb => .inr ⟨h1, hb.2⟩⟩⟩
        rcases hb with hb | ⟨_, hb⟩
        · exact ⟨rfl, ((h6 o).1 hb).2⟩
        · exact ⟨rfl, hb⟩
    · rename_i e
      refine (ha.inv.ob i o hi).ext kp (fun _ _ => ⟨rfl, rfl, rfl⟩) (Nat.le_refl _) (by rw [ha.inv.n]; exact (List.getElem?_eq_some_iff.1 hi).1) (fun b hb => ⟨rfl, fun o => ⟨fun ho => ?_, fun h => .inl h⟩⟩)
      rcases ho with ho | ⟨ho, _⟩
      · exact ho
      · exact absurd (ha.inv.inj i id b hb ho) (fun h => e h.symm)
  · rcases hb with hb | ⟨hb, _⟩
    · exact ha.new b o hb
    · exact (ha.own id b hb hro).elim (fun h => .inr (.inl h)) (fun h => .inr (.inr h))
end

end Go.Sx
