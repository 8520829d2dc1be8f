/- The engine: rows of the call's own: made, appended to, written; and slices. -/
import Derived.Test.YtbegnjhfhnaagaaDoorSxG
import Derived.Great.BuildSlice
import Derived.Laws.MakeOwn
namespace Go.Sx
open Go.RowKit

theorem Co_dd {η : List Ob} {s : SV} {d : D} (h : s = .d d) : Co η s d := by rw [h]; rfl
theorem Co_nn {η : List Ob} {s : SV} (h : s = .nil) : Co η s (.slice []) := by rw [h]; exact .inl rfl
theorem Co_bb {η : List Ob} {s : SV} {id n : Nat} {e sz : Nat} {xs : List D} (h : s = .buf id n) (ho : η[id]? = some (.buf false e sz xs)) (hn : n = xs.length) : Co η s (.slice xs) := by rw [h]; exact Co_buf ho hn

/-- a slice's datum, opened -/
theorem RepD.open_slice {St : Stab} {w : World} {v : Value} {xs : List D} (h : RepD St w v (.slice xs)) {sz : Nat} (hf : ∀ x ∈ xs, x.flat.length = sz) :
    ∃ (a : Option Addr) (cap : Nat) (us : List Value), v = .slice a xs.length cap ∧ xs.length ≤ cap ∧ cap ≤ maxLen ∧ us.length = xs.length * sz ∧ (∀ u ∈ us, u.oneCell' = true) ∧
      (0 < xs.length → ∃ ad, a = some ad ∧ ∀ (j : Nat) (u : Value), us[j]? = some u → Cell St w ad j u) ∧ ∀ (j : Nat) (u : Value) (d : D), us[j]? = some u → (flats xs)[j]? = some d → RepD St w u d := by
  cases h with
  | slice a len cap sz' _ us hlen hcap hm hsz hus h1 hcell hr =>
    subst hlen
    exact ⟨a, cap, us, rfl, hcap, hm, by rw [hus, flats_len hf], h1, hcell, hr⟩

section
variable {C : Ctx} {ops : Array Oper} {rest : List Oper} {K : Sl → List Ob → Prop} {σ : Sl} {η : List Ob} {d : Nat} {ty : TypeId} {pos : String} {after : Array Edge} {gd : Option (Nat × Bool)} {t : TypeId} {x y : Operand}

/-- A ROW MORE. -/
theorem AbsG.newBuf {g : Gh} {a : Act} {w w' : World} (ha : AbsG C g σ η a w) (mu : Bool) (e : TypeId) (sz cap : Nat) (us : Array Value) (xs : List D)
    (os : w'.os = w.os) (tape : w'.tape = w.tape) (output : w'.output = w.output) (size : w'.heap.size = w.heap.size + 1) (heap : ∀ k, k < w.heap.size → w'.heap[k]? = w.heap[k]?) (hB : w'.heap[w.heap.size]? = some (.cells us e (0, 0)))
    (hro : C.ro ≤ η.length) (hf : ∀ x ∈ xs, x.flat.length = sz) (hc : xs.length ≤ cap) (hm : cap ≤ maxLen) (hus : us.size = cap * sz)
    (h1 : ∀ (j : Nat) (u : Value), j < xs.length * sz → us[j]? = some u → u.oneCell' = true) (hr : ∀ (j : Nat) (u : Value) (d : D), us[j]? = some u → (flats xs)[j]? = some d → RepD g.St w u d) :
    AbsG C { St := fun b o => g.St b o ∨ (b = w.heap.size ∧ mu = false ∧ o < xs.length * sz), blk := upd g.blk g.n (some w.heap.size), cap := upd g.cap g.n cap, sz := upd g.sz g.n sz, n := g.n + 1 } σ (η ++ [.buf mu e sz xs]) a w' := by
  have hn := ha.inv.n
  refine ha.newOb (.buf mu e sz xs) os tape output (by omega) heap rfl (fun id hid => ?_) (fun id hid => ?_) (fun b hb => ?_) (fun _ _ h => .inl h) (fun b o hb => ?_) (fun b o hb => ?_) (by rw [hn]; exact hro) ⟨?_, hf, ?_, ?_, .inr ⟨w.heap.size, us, ?_, hB, ?_, h1, fun j u d hu hd => ?_, fun o => ⟨fun ho => ?_, fun ho => .inr ⟨rfl, ho⟩⟩⟩⟩
  · simp [upd, Nat.ne_of_lt hid]
  · have hne : id ≠ g.n := by omega
    simp only [upd, if_neg hne]
    exact ha.inv.dead id (by omega)
  · simp [upd] at hb; omega
  · rcases hb with hb | ⟨hb, _⟩
    · exact .inl hb
    · exact .inr (by omega)
  · rcases hb with hb | ⟨hb, _⟩
    · have := ha.inv.st b o hb; omega
    · omega
  · simp [upd]
  · simpa [upd] using hm
  · simpa [upd] using hc
  · simp [upd]
  · simpa [upd] using hus
  · exact (hr j u d hu hd).keep ⟨fun _ _ h => .inl h, fun b o u hb hu => (World.cell?_of_block (a := ⟨b, o, none⟩) (heap b (ha.inv.st b o hb))).trans hu, fun b hb => heap b (ha.inv.st b 0 (hb 0))⟩
  · rcases ho with ho | ⟨_, ho⟩
    · exact absurd (ha.inv.st _ o ho) (by omega)
    · exact ho

def bytesOf (P : Program) (t : TypeId) : Option Nat :=
  match elemTy P t with
  | some e => (P.info? e).map (·.bytes)
  | none => none

/-- one element of a list: an aggregate of cells, or one cell -/
def okc : D → Bool
  | .agg _ => true
  | .val u => u.oneCell'
  | .slice _ => true
  | .tup _ => false

theorem scells_ok {d : D} (h : okc d = true) : scells (.d d) = some (d.flat.map SV.d) := by
  cases d with
  | agg cs => rfl
  | val u => change u.oneCell' = true at h; simp [scells, one, h, D.flat]
  | slice xs => rfl
  | tup ds => cases h

theorem RepDs.cells {g : Gh} {w : World} {sz : Nat} : ∀ (vs : List Value) (ds : List D), RepDs g.St w vs ds → (∀ d ∈ ds, d.flat.length = sz) → ds.all okc = true → (∀ v ∈ vs, v.cells.size = sz ∧ ∀ u ∈ v.cells, u.oneCell' = true) ∧
    ∀ (j : Nat) (u : Value) (d : D), (vs.flatMap fun v => v.cells.toList)[j]? = some u → (flats ds)[j]? = some d → RepD g.St w u d
  | [], [], _, _, _ => ⟨by simp, by simp⟩
  | [], _ :: _, h, _, _ => h.elim
  | _ :: _, [], h, _, _ => h.elim
  | v :: vs, d0 :: ds, h, hf, hok => by
    obtain ⟨h1, h2⟩ := h
    simp only [List.all_cons, Bool.and_eq_true] at hok
    obtain ⟨i1, i2⟩ := RepDs.cells vs ds h2 (fun d hd => hf d (by simp [hd])) hok.2
    have hd0 := hf d0 (by simp)
    obtain ⟨c1, c2, c3⟩ := RepS.cells (g := g) (w := w) (s := .d d0) h1 (scells_ok hok.1)
    rw [List.length_map] at c1
    refine ⟨fun v' hv' => ?_, fun j u d' hu hd' => ?_⟩
    · rcases List.mem_cons.1 hv' with rfl | hv'
      · exact ⟨by omega, c2⟩
      · exact i1 v' hv'
    · have e1 : v.cells.toList.length = sz := by rw [Array.length_toList]; omega
      simp only [List.flatMap_cons, flats] at hu hd'
      rcases Nat.lt_or_ge j sz with hj | hj
      · rw [List.getElem?_append_left (by omega)] at hu hd'
        exact c3 j u (.d d') (by simpa using hu) (by rw [List.getElem?_map, hd']; rfl)
      · rw [List.getElem?_append_right (by omega)] at hu hd'
        rw [e1] at hu; rw [hd0] at hd'
        exact i2 _ u d' hu hd'

theorem flatMap_len {sz : Nat} : ∀ (vs : List Value), (∀ v ∈ vs, v.cells.size = sz) → (vs.flatMap fun v => v.cells.toList).length = vs.length * sz
  | [], _ => by simp
  | v :: vs, h => by
    have h1 := h v (by simp)
    rw [List.flatMap_cons, List.length_append, flatMap_len vs (fun v hv => h v (by simp [hv])), Array.length_toList, h1, List.length_cons, Nat.add_mul]; omega

/-- a slice literal -/
theorem aLit {sz e n : Nat} {xs : List Operand} {ds : List D} (he : elemTy C.P t = some e) (hs : elemSize C.P t = some sz) (hz : (zeroOf C.P e).isSome = true) (hp : Nat.blt 0 sz = true) (hb : Nat.ble (n * sz) 16777216 = true)
    (hl : xs.length = n) (hc : CoL η σ xs ds) (hf : ∀ d ∈ ds, d.flat.length = sz) (hok : ds.all okc = true) (hd : Nat.blt d C.N = true) (hro : Nat.ble C.ro η.length = true) {parts : Array (Nat × Operand)} (hparts : parts = ((xs.zipIdx 0).map fun x => (x.2, x.1)).toArray)
    (h : alex C false ops rest K ((d, .buf η.length ds.length) :: σ) (η ++ [.buf false e sz ds])) :
    astep C false ops ⟨some d, .buildSlice t n parts, ty, pos, after, gd⟩ rest K σ η := by
  have hp : 0 < sz := by simpa using hp
  have hb := Nat.le_of_ble_eq_true hb
  subst hparts
  refine estep (fun g a w ha => ?_) h
  obtain ⟨e', i, hu, hi, hsz⟩ := elemSize_some hs
  have : e' = e := by have := elemTy_some he; rw [hu] at this; injection this with this; injection this
  subst this
  have hrep := CoL.rep (a := a) ha.inv xs ds (fun x _ => ha.eval x) hc
  have hlen := hrep.len
  rw [List.length_map] at hlen
  obtain ⟨i1, i2⟩ := RepDs.cells _ ds hrep hf hok
  have hfl := flatMap_len (sz := sz) (xs.map a.eval) (fun v hv => (i1 v hv).1)
  rw [List.length_map, hl] at hfl
  let us := ((xs.map a.eval).flatMap fun v => v.cells.toList).toArray
  have hus : us.size = n * sz := by simpa [us] using hfl
  have hpe : ((((xs.zipIdx 0).map fun x => (x.2, x.1)).toArray).map fun (p : Nat × Operand) => (p.1, a.eval p.2)).toList = (((xs.map a.eval).zipIdx 0).map fun x => (x.2, x.1)) := by
    simp [List.zipIdx_map, List.map_map, Function.comp_def]
  have hrun : (Instr.buildSlice t n ((((xs.zipIdx 0).map fun x => (x.2, x.1)).toArray).map fun (p : Nat × Operand) => (p.1, a.eval p.2))).run C.P w = .ok (.slice (some ⟨w.heap.size, 0, none⟩) n n) (w.alloc (.cells us e')) := by
    have hzz : ∃ z, i.zero = some z := by
      unfold zeroOf at hz; rw [hi] at hz
      cases hq : i.zero with
      | none => simp [hq] at hz
      | some z => exact ⟨z, rfl⟩
    obtain ⟨z, hzz⟩ := hzz
    by_cases h0 : n = 0
    · subst h0
      have hx : xs = [] := List.eq_nil_of_length_eq_zero hl
      subst hx
      simp [Instr.buildSlice, run_underlying hu, sizeOf, typeInfo, hi, newRow, Instr.fill, us, Array.range_zero']
    · have hne : ¬ n * i.size = 0 := by rw [hsz]; intro h; rcases Nat.mul_eq_zero.1 h with h | h <;> omega
      have hfw := Great.fill_whole hp (xs.map a.eval) ((Array.range (n * i.size)).map (z.cells[· % z.cells.size]!)) (fun v hv => (i1 v hv).1) (by simp [hl, hsz])
      exact run_buildSlice w t e' n _ us i z hu hi hzz (by rw [hsz]; omega) hne (by rw [hpe]; rw [← hsz] at hfw; exact hfw)
  have hbuf := ha.newBuf (w' := w.alloc (.cells us e')) false e' sz n us ds rfl rfl rfl (by simp) (fun k hk => Below.heap_alloc w _ k hk) (_root_.Go.heap_alloc_new w _) (Nat.le_of_ble_eq_true hro) hf (by omega) (by simp only [maxLen]; have : n * 1 ≤ n * sz := Nat.mul_le_mul_left _ hp; omega) hus
    (fun j u _ hu => by
      have hm := Array.mem_of_getElem? hu
      simp only [us, List.mem_toArray, List.mem_flatMap] at hm
      obtain ⟨v, hv, hm⟩ := hm
      exact (i1 v hv).2 u (by simpa using hm))
    (fun j u d hu hd => i2 j u d (by simpa [us] using hu) hd)
  refine ⟨_, _, by simp only [execOp, Sem.run_bind]; rw [hrun]; rfl, _, hbuf.put (d := some d) hd ?_⟩
  refine ⟨?_, ?_⟩
  · show η.length < g.n + 1; have := ha.inv.n; omega
  · have hn := ha.inv.n
    show _ = Value.slice ((upd g.blk g.n (some w.heap.size) η.length).map _) _ (upd g.cap g.n n η.length)
    rw [← hn, ← hlen, hl]; simp [upd]

/-! ### append -/
def SV.kill (id : Nat) : SV → SV
  | .buf i n => match Nat.beq i id with
    | true => .top
    | false => .buf i n
  | .bptr i k o => match Nat.beq i id with
    | true => .top
    | false => .bptr i k o
  | .ptr i o => match Nat.beq i id with
    | true => .top
    | false => .ptr i o
  | .clo f ids => match ids.any (Nat.beq id) with
    | true => .top
    | false => .clo f ids
  | s => s
def killσ (id : Nat) : Sl → Sl
  | [] => []
  | (k, s) :: r => (k, s.kill id) :: killσ id r
def Ob.kill (id : Nat) : Ob → Ob
  | .box cs => .box (cs.map (SV.kill id))
  | o => o
def killη (id : Nat) : List Ob → List Ob
  | [] => []
  | o :: r => o.kill id :: killη id r

theorem get_kill (id : Nat) : ∀ (σ : Sl) (t : Nat), get (killσ id σ) t = (get σ t).kill id
  | [], t => rfl
  | (k, s) :: r, t => by
    unfold killσ
    rw [get_cons, get_cons]
    split
    · rfl
    · exact get_kill id r t
theorem killη_len (id : Nat) : ∀ (η : List Ob), (killη id η).length = η.length
  | [] => rfl
  | _ :: r => by simp [killη, killη_len id r]
theorem killη_get (id : Nat) : ∀ (η : List Ob) (i : Nat), (killη id η)[i]? = (η[i]?).map (Ob.kill id)
  | [], i => by simp [killη]
  | o :: r, 0 => by simp [killη]
  | o :: r, i + 1 => by simp [killη, killη_get id r i]

/-- what does not name row id is kept where only row id has changed -/
theorem RepS.other {g g' : Gh} {w w' : World} {v : Value} {s : SV} {id : Nat} (k : Keep g.St w g'.St w') (h : ∀ i, i ≠ id → g'.blk i = g.blk i ∧ g'.cap i = g.cap i ∧ g'.sz i = g.sz i) (hn : g'.n = g.n)
    (r : RepS g w v s) : RepS g' w' v (s.kill id) := by
  have nb : ∀ {i : Nat}, Nat.beq i id = false → i ≠ id := fun he e => by subst e; simp at he
  cases s with
  | d d => exact RepD.keep k r
  | nil => exact r
  | ptr i off =>
    cases he : Nat.beq i id with
    | true => simp only [SV.kill, he]; trivial
    | false =>
      simp only [SV.kill, he]
      obtain ⟨h1, b, h2, h3⟩ := r
      exact ⟨by omega, b, by rw [(h i (nb he)).1]; exact h2, h3⟩
  | rptr cs =>
    obtain ⟨ad, us, h1, h2, h3, h4, h5⟩ := r
    exact ⟨ad, us, h1, h2, h3, fun j u hu => (h4 j u hu).keep k, fun j u d hu hd => (h5 j u d hu hd).keep k⟩
  | bptr i j off =>
    cases he : Nat.beq i id with
    | true => simp only [SV.kill, he]; trivial
    | false =>
      simp only [SV.kill, he]
      obtain ⟨h1, b, h2, h3⟩ := r
      exact ⟨by omega, b, by rw [(h i (nb he)).1]; exact h2, by rw [(h i (nb he)).2.2]; exact h3⟩
  | buf i n =>
    cases he : Nat.beq i id with
    | true => simp only [SV.kill, he]; trivial
    | false =>
      simp only [SV.kill, he]
      obtain ⟨h1, h2⟩ := r
      exact ⟨by omega, by rw [(h i (nb he)).1, (h i (nb he)).2.1]; exact h2⟩
  | clo f ids =>
    cases he : ids.any (Nat.beq id) with
    | true => simp only [SV.kill, he]; trivial
    | false =>
      simp only [SV.kill, he]
      obtain ⟨vs, h1, h2, h3⟩ := r
      refine ⟨vs, h1, h2, fun j i u hj hu => ?_⟩
      obtain ⟨h4, b, h5, h6⟩ := h3 j i u hj hu
      have hne : i ≠ id := fun e => by
        subst e
        have := List.any_eq_false.1 he i (List.mem_of_getElem? hj)
        simp at this
      exact ⟨by omega, b, by rw [(h i hne).1]; exact h5, h6⟩
  | top => trivial

theorem bytesOf_some {P : Program} {t by' : Nat} (h : bytesOf P t = some by') : ∃ e i, P.underlying t = some (.slice e) ∧ P.info? e = some i ∧ i.bytes = by' := by
  unfold bytesOf at h
  split at h
  · rename_i e he
    cases hi : P.info? e with
    | none => simp [hi] at h
    | some i => simp [hi] at h; exact ⟨e, i, elemTy_some he, hi, h⟩
  · cases h

/-- what append does to a row of the call's own -/
theorem run_append_sx {P : Program} (w : World) (t ty e : TypeId) (i : TypeInfo) (z : Value) (ht : P.underlying t = some (.slice e)) (hi : P.info? e = some i) (hz : i.zero = some z) (hzs : z.cells.size = i.size)
    (ob : Option Nat) (n cap : Nat) (us : Array Value) (hob : (ob = none ∧ cap = 0 ∧ n = 0) ∨ ∃ b, ob = some b ∧ w.heap[b]? = some (.cells us e (0, 0)) ∧ us.size = cap * i.size ∧ n ≤ cap)
    (src : Option Addr) (m c : Nat) (news : List Value) (hl : news.length = m * i.size) (hs : 0 < m → ∃ ad, src = some ad ∧ ∀ (j : Nat) (u : Value), news[j]? = some u → w.cell? (ad.add j) = some u) (h1 : ∀ u ∈ news, u.oneCell' = true)
    (hbytes : (n + m) * i.bytes ≤ 140737488355328) (h63 : n + m ≤ maxLen) (hcm : cap ≤ maxLen) :
    ∃ (ob' : Option Nat) (cap' : Nat) (w' : World), (Builtin.append_ #[t, t] ty #[.slice (ob.map (⟨·, 0, none⟩)) n cap, .slice src m c]).run P w = .ok (.slice (ob'.map (⟨·, 0, none⟩)) (n + m) cap') w' ∧
      n + m ≤ cap' ∧ cap' ≤ maxLen ∧ w'.os = w.os ∧ w'.tape = w.tape ∧ w'.output = w.output ∧ w.heap.size ≤ w'.heap.size ∧
      ((ob' = none ∧ cap' = 0 ∧ n + m = 0 ∧ ob = none ∧ w' = w) ∨ ∃ (b' : Nat) (us' : Array Value), ob' = some b' ∧ w'.heap[b']? = some (.cells us' e (0, 0)) ∧ us'.size = cap' * i.size ∧ b' < w'.heap.size ∧
        (∀ j, j < n * i.size → us'[j]? = us[j]?) ∧ (∀ (j : Nat), j < m * i.size → us'[n * i.size + j]? = news[j]?) ∧
        ((ob = some b' ∧ ∀ k, k ≠ b' → w'.heap[k]? = w.heap[k]?) ∨ (w.heap.size ≤ b' ∧ ∀ k, k < w.heap.size → w'.heap[k]? = w.heap[k]?))) := by
  have h63' : n + m ≤ 9223372036854775807 := by simp only [maxLen] at h63; omega
  by_cases hm : m = 0
  · subst hm
    have hn : news = [] := List.eq_nil_of_length_eq_zero (by simpa using hl)
    subst hn
    rcases hob with ⟨rfl, rfl, rfl⟩ | ⟨b, rfl, hh, hsz, hnc⟩
    · refine ⟨none, 0, w, ?_, by omega, by simp [maxLen], rfl, rfl, rfl, Nat.le_refl _, .inl ⟨rfl, rfl, rfl, rfl, rfl⟩⟩
      cases src <;> simp [Builtin.append_, run_underlying ht, sizeOf, typeInfo, hi, Builtin.lenOf, Builtin.firstCells, loadCells, loadCellsFrom]
    · refine ⟨some b, cap, w, ?_, by omega, hcm, rfl, rfl, rfl, Nat.le_refl _, .inr ⟨b, us, rfl, hh, hsz, (Array.getElem?_eq_some_iff.1 hh).1, fun _ _ => rfl, fun j hj => by omega, .inl ⟨rfl, fun _ _ => rfl⟩⟩⟩
      cases src <;> simp [Builtin.append_, run_underlying ht, sizeOf, typeInfo, hi, Builtin.lenOf, Builtin.firstCells, loadCells, loadCellsFrom, hnc, storeCells]
  · obtain ⟨ad, rfl, hnews⟩ := hs (by omega)
    rcases hob with ⟨rfl, rfl, rfl⟩ | ⟨b, rfl, hh, hsz, hnc⟩
    · have hr := run_append_nil (P := P) w t ty e i z ht hi hz ad m c news hl hnews (by omega) (by omega) (by rw [Nat.zero_add] at hbytes; omega)
      have hge := grownCap_ge w m 0 e
      refine ⟨some w.heap.size, grownCap w m 0 e, w.drew.alloc (.cells (news.toArray ++ Builtin.zeroCells z.cells (grownCap w m 0 e - m)) e), by simpa using hr, by omega, grownCap_le_maxLen w m 0 e (by omega), rfl, rfl, rfl, by simp, .inr ⟨w.heap.size, _, rfl, _root_.Go.heap_alloc_new w.drew _, ?_, by simp, fun j hj => by omega, fun j hj => ?_, .inr ⟨Nat.le_refl _, fun k hk => Below.heap_alloc w.drew _ k hk⟩⟩⟩
      · simp only [Array.size_append, List.size_toArray, size_zeroCells, hzs, hl]
        rw [← Nat.add_mul]; congr 1; omega
      · rw [Array.getElem?_append_left (by simp; omega)]
        simp
    · by_cases hroom : n + m ≤ cap
      · have hmul : (n + m) * i.size ≤ cap * i.size := Nat.mul_le_mul_right _ hroom
        rw [Nat.add_mul] at hmul
        have hr := run_append_room (P := P) w t ty e i ht hi b n cap us hh ad m c news hl hnews h1 hroom (by omega)
        have hub : b < w.heap.size := (Array.getElem?_eq_some_iff.1 hh).1
        refine ⟨some b, cap, _, hr, hroom, hcm, rfl, rfl, rfl, by simp, .inr ⟨b, _, rfl, setRow_heap w b us _ e (0, 0) hh, ?_, by simpa using hub, fun j hj => ?_, fun j hj => ?_, .inl ⟨rfl, fun k hk => setRow_other w b k _ hk⟩⟩⟩
        · simp only [List.size_toArray, List.length_append, List.length_take, List.length_drop, Array.length_toList]; omega
        · simp only [List.getElem?_toArray]
          rw [List.append_assoc, List.getElem?_append_left (by simp; omega), List.getElem?_take, if_pos hj]; simp
        · simp only [List.getElem?_toArray]
          have e1 : (us.toList.take (n * i.size)).length = n * i.size := by rw [List.length_take, Array.length_toList]; omega
          rw [List.append_assoc, List.getElem?_append_right (by omega), e1, Nat.add_sub_cancel_left, List.getElem?_append_left (by omega)]
      · have hnsz : n * i.size ≤ us.size := by rw [hsz]; exact Nat.mul_le_mul_right _ hnc
        have holds : ∀ j v, (us.toList.take (n * i.size))[j]? = some v → w.cell? ((⟨b, 0, none⟩ : Addr).add j) = some v := by
          intro j v hj
          rw [List.getElem?_take] at hj
          split at hj
          · rw [Addr.add_lit, Nat.zero_add, cell_of_row w b j us e (0, 0) hh]; simpa using hj
          · cases hj
        have hr := run_append_grow (P := P) w t ty e i z ht hi hz ⟨b, 0, none⟩ n cap (us.toList.take (n * i.size)) (by rw [List.length_take, Array.length_toList]; omega) holds ad m c news hl hnews (by omega) (by omega) (growslice_fits (by omega) hbytes)
        have hge := grownCap_ge w (n + m) cap e
        have e1 : (us.toList.take (n * i.size)).length = n * i.size := by rw [List.length_take, Array.length_toList]; omega
        refine ⟨some w.heap.size, grownCap w (n + m) cap e, _, hr, hge, grownCap_le_maxLen w (n + m) cap e h63, rfl, rfl, rfl, by simp, .inr ⟨w.heap.size, _, rfl, _root_.Go.heap_alloc_new w.drew _, ?_, by simp, fun j hj => ?_, fun j hj => ?_, .inr ⟨Nat.le_refl _, fun k hk => Below.heap_alloc w.drew _ k hk⟩⟩⟩
        · simp only [Array.size_append, List.size_toArray, size_zeroCells, hzs, hl, e1]
          rw [← Nat.add_mul, ← Nat.add_mul]; congr 1; omega
        · rw [Array.append_assoc, Array.getElem?_append_left (by simp; omega)]
          simp [hj]
        · rw [Array.append_assoc, Array.getElem?_append_right (by simp; omega)]
          rw [List.size_toArray, e1, Nat.add_sub_cancel_left, Array.getElem?_append_left (by simp; omega)]
          simp
end

end Go.Sx
