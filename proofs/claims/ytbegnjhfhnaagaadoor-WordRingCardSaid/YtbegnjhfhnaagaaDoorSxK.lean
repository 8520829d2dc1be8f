/- The engine: make, copy, a store into a row. -/
import Derived.Test.YtbegnjhfhnaagaaDoorSxJ
namespace Go.Sx
open Go.RowKit

/-- the zero value, as a datum -/
def zdv : Value → D
  | .slice none 0 0 => .slice []
  | v => .val v
def zeroD (P : Program) (e : TypeId) : Option D :=
  match zeroOf P e, tyCells P e with
  | some zs, some (true, _) => some (.agg (zs.map zdv))
  | some [z], some (false, _) => some (zdv z)
  | _, _ => none

theorem zdv_rep (St : Stab) (w : World) (v : Value) : RepD St w v (zdv v) := by
  unfold zdv
  split
  · exact .slice none 0 0 0 [] [] rfl (Nat.le_refl _) (Nat.zero_le _) (by simp) rfl (by simp) (by simp) (by simp)
  · exact .val _
theorem zdv_flat (v : Value) : (zdv v).flat = [zdv v] := by
  unfold zdv
  split <;> rfl

theorem zeroD_some {P : Program} {e : TypeId} {i : TypeInfo} {zd : D} (hi : P.info? e = some i) (h : zeroD P e = some zd) : ∃ z, i.zero = some z ∧ z.cells.size = zd.flat.length ∧ (∀ u ∈ z.cells, u.oneCell' = true) ∧
    ∀ (St : Stab) (w : World) (j : Nat) (u : Value) (d : D), z.cells[j]? = some u → zd.flat[j]? = some d → RepD St w u d := by
  have hz : ∀ zs, zeroOf P e = some zs → ∃ z, i.zero = some z ∧ z.cells.toList = zs ∧ ∀ u ∈ z.cells, u.oneCell' = true := by
    intro zs hz
    unfold zeroOf at hz
    rw [hi] at hz
    cases hq : i.zero with
    | none => simp [hq] at hz
    | some z =>
      simp only [hq] at hz
      split at hz
      · rename_i hall; injection hz with hz; exact ⟨z, rfl, hz, Array.all_eq_true_iff_forall_mem.1 hall⟩
      · cases hz
  unfold zeroD at h
  split at h
  · rename_i zs n h1 h2
    injection h with h; subst h
    obtain ⟨z, e1, e2, e3⟩ := hz zs h1
    refine ⟨z, e1, by rw [← Array.length_toList, e2]; simp [D.flat], e3, fun St w j u d hu hd => ?_⟩
    rw [← Array.getElem?_toList, e2] at hu
    simp only [D.flat, List.getElem?_map, hu] at hd
    simp at hd; subst hd; exact zdv_rep St w u
  · rename_i z0 n h1 h2
    injection h with h; subst h
    obtain ⟨z, e1, e2, e3⟩ := hz [z0] h1
    refine ⟨z, e1, by rw [← Array.length_toList, e2, zdv_flat]; simp, e3, fun St w j u d hu hd => ?_⟩
    rw [← Array.getElem?_toList, e2] at hu
    rw [zdv_flat] at hd
    match j with
    | 0 => simp at hu hd; subst hu; subst hd; exact zdv_rep St w _
    | j + 1 => simp at hu
  · cases h

section
variable {C : Ctx} {ops : Array Oper} {rest : List Oper} {K : Sl → List Ob → Prop} {σ : Sl} {η : List Ob} {d : Nat} {ty : TypeId} {pos : String} {after : Array Edge} {gd : Option (Nat × Bool)} {t : TypeId} {x y : Operand}

theorem flats_rep (n : Nat) (zd : D) (j : Nat) (hp : 0 < zd.flat.length) (hj : j < n * zd.flat.length) : (flats (List.replicate n zd))[j]? = zd.flat[j % zd.flat.length]? := by
  have hd : j / zd.flat.length < n := by rwa [Nat.div_lt_iff_lt_mul hp]
  have := flats_at (sz := zd.flat.length) (xs := List.replicate n zd) (fun x hx => by rw [List.eq_of_mem_replicate hx]) (i := j / zd.flat.length) (d := zd) (by simp [hd]) (j := j % zd.flat.length) (Nat.mod_lt _ hp)
  rw [← this]
  congr 1
  rw [Nat.mul_comm]; exact (Nat.div_add_mod _ _).symm

/-- make([]T, n) -/
theorem aMake {e sz by' : Nat} {zd : D} {n : Int} {k k' : IntKind} (hx : oval σ x = .d (.val (.int k n))) (hy : oval σ y = .d (.val (.int k' n))) (he : elemTy C.P t = some e) (hs : elemSize C.P t = some sz) (hz : zeroD C.P e = some zd) (hzl : zd.flat.length = sz) (hp : Nat.blt 0 sz = true) (hb : bytesOf C.P t = some by')
    (hd : Nat.blt d C.N = true) (hro : Nat.ble C.ro η.length = true) (hn : 0 ≤ n ∧ n * by' ≤ 281474976710656 ∧ n ≤ 281474976710656)
    (h : alex C false ops rest K ((d, .buf η.length n.toNat) :: σ) (η ++ [.buf true e sz (List.replicate n.toNat zd)])) :
    astep C false ops ⟨some d, .makeSlice t x y, ty, pos, after, gd⟩ rest K σ η := by
  have hp : 0 < sz := by simpa using hp
  refine estep (fun g a w ha => ?_) h
  obtain ⟨e', i, hu, hi, hsz⟩ := elemSize_some hs
  have : e' = e := by have := elemTy_some he; rw [hu] at this; injection this with this; injection this
  subst this
  have hby : i.bytes = by' := by
    obtain ⟨e2, i2, h1, h2, h3⟩ := bytesOf_some hb
    rw [hu] at h1; injection h1 with h1; injection h1 with h1; subst h1
    rw [hi] at h2; injection h2 with h2; subst h2; exact h3
  obtain ⟨z, hzz, hzs, hz1, hzr⟩ := zeroD_some hi hz
  have hxr := ha.eval x; rw [hx] at hxr
  have hyr := ha.eval y; rw [hy] at hyr
  have hrun := run_make (P := C.P) w t e' i z hu hi hzz k k' n n hn.1 (Int.le_refl _) (by rw [hby, Int.mul_comm]; exact hn.2.1) (by omega)
  have hg0 : ∀ (j : Nat) (u : Value), (madeCells z.cells (n.toNat * i.size))[j]? = some u → j < n.toNat * sz ∧ z.cells[j % sz]? = some u := by
    intro j u hu
    unfold madeCells at hu
    rw [hsz] at hu
    obtain ⟨hj, hu⟩ := Array.getElem?_eq_some_iff.1 hu
    simp at hj
    simp only [Array.getElem_map, Array.getElem_range] at hu
    have hm : j % sz < z.cells.size := by rw [hzs, hzl]; exact Nat.mod_lt _ hp
    refine ⟨hj, ?_⟩
    rw [hzs, hzl] at hu
    rw [getElem!_pos z.cells (j % sz) hm] at hu
    rw [Array.getElem?_eq_getElem hm, hu]
  have hbuf := ha.newBuf (w' := w.alloc (.cells (madeCells z.cells (n.toNat * i.size)) e')) true e' sz n.toNat (madeCells z.cells (n.toNat * i.size)) (List.replicate n.toNat zd) rfl rfl rfl (by simp) (fun k hk => Below.heap_alloc w _ k hk) (_root_.Go.heap_alloc_new w _) (Nat.le_of_ble_eq_true hro)
    (fun x hx => by rw [List.eq_of_mem_replicate hx]; exact hzl) (by simp) (by simp only [maxLen]; omega) (by rw [size_madeCells, hsz])
    (fun j u _ hu => hz1 u (Array.mem_of_getElem? (hg0 j u hu).2))
    (fun j u d' hu hd' => by
      obtain ⟨h1, h2⟩ := hg0 j u hu
      rw [flats_rep n.toNat zd j (by rw [hzl]; exact hp) (by rw [hzl]; exact h1), hzl] at hd'
      exact hzr g.St w _ u d' h2 hd')
  refine ⟨_, _, by simp only [execOp, Sem.run_bind, RepD.val_eq hxr, RepD.val_eq hyr, hrun]; rfl, _, hbuf.put (d := some d) hd ?_⟩
  refine ⟨?_, ?_⟩
  · show η.length < g.n + 1; have := ha.inv.n; omega
  · have hn' := ha.inv.n
    show _ = Value.slice ((upd g.blk g.n (some w.heap.size) η.length).map _) _ (upd g.cap g.n n.toNat η.length)
    rw [← hn']; simp [upd]

/-- a row that may be written, written: St as it was -/
theorem AbsG.writeBuf {g : Gh} {a : Act} {w : World} (ha : AbsG C g σ η a w) {id e sz b : Nat} {xs xs' : List D} {us us' : Array Value} (ho : η[id]? = some (.buf true e sz xs)) (hro : C.ro ≤ id) (hb : g.blk id = some b) (hh : w.heap[b]? = some (.cells us e (0, 0)))
    (hst : ∀ o, ¬ g.St b o) (hf : ∀ x ∈ xs', x.flat.length = sz) (hl : xs'.length ≤ g.cap id) (hs : us'.size = us.size) (hus : us.size = g.cap id * sz)
    (h1 : ∀ (j : Nat) (u : Value), j < xs'.length * sz → us'[j]? = some u → u.oneCell' = true) (hr : ∀ (j : Nat) (u : Value) (d : D), us'[j]? = some u → (flats xs')[j]? = some d → RepD g.St w u d) :
    AbsG C g σ (η.set id (.buf true e sz xs')) a (w.setRow b us') := by
  have hoth : ∀ k, k ≠ b → (w.setRow b us').heap[k]? = w.heap[k]? := fun k hk => setRow_other w b k us' hk
  have kp : Keep g.St w g.St (w.setRow b us') := ⟨fun _ _ h => h, fun c o u hc hu => (World.cell?_of_block (a := ⟨c, o, none⟩) (hoth c (fun e => hst o (e ▸ hc)))).trans hu, fun c hc => hoth c (fun e => hst 0 (e ▸ hc 0))⟩
  have rk : ∀ {v : Value} {s : SV}, RepS g w v s → RepS g (w.setRow b us') v s := fun r => r.ext kp (fun _ _ => ⟨rfl, rfl, rfl⟩) (Nat.le_refl _)
  have hidl : id < η.length := (List.getElem?_eq_some_iff.1 ho).1
  obtain ⟨o1, o2, o3, o4, o5⟩ := ha.inv.ob id _ ho
  refine ⟨ha.defers, ha.size, ⟨by rw [List.length_set]; exact ha.inv.n, fun i c hc => by rw [setRow_size]; exact ha.inv.lt i c hc, ha.inv.dead, ha.inv.inj, fun i o hi => ?_, fun c o hc => by rw [setRow_size]; exact ha.inv.st c o hc, ha.inv.gl.keep kp⟩, ha.os, ha.tape, ha.output, by rw [setRow_size]; exact ha.wsize,
    fun k hk hx => ?_, ha.keep.trans kp, ha.new, ha.own, fun t => rk (ha.rep t)⟩
  · rw [List.getElem?_set] at hi
    split at hi
    · rename_i hc; subst hc
      try rw [if_pos hidl] at hi
      injection hi with hi; subst hi
      exact ⟨o1, hf, o3, hl, .inr ⟨b, us', hb, setRow_heap w b us us' e (0, 0) hh, by rw [hs, hus], h1, fun j u d hu hd => (hr j u d hu hd).keep kp, fun o => ⟨fun h => absurd h (hst o), fun h => by cases h.1⟩⟩⟩
    · rename_i hc
      refine (ha.inv.ob i o hi).ext kp (fun _ _ => ⟨rfl, rfl, rfl⟩) (Nat.le_refl _) (by rw [ha.inv.n]; exact (List.getElem?_eq_some_iff.1 hi).1) (fun c hcb => ⟨hoth c (fun e => ?_), fun _ => Iff.rfl⟩)
      subst e
      exact hc (ha.inv.inj id i c hb hcb)
  · rw [hoth k (fun e => ?_)]
    · exact ha.heap k hk hx
    · subst e
      rcases ha.own id k hb hro with h2 | h2
      · omega
      · exact hx h2

/-- copy into a row that may be written -/
theorem aCopy {id n e sz : Nat} {xs ys : List D} {t2 : TypeId} (hx : oval σ x = .buf id n) (ho : η[id]? = some (.buf true e sz xs)) (hn : n = xs.length) (hy : Co η (oval σ y) (.slice ys)) (hs : elemSize C.P t = some sz) (hf : ∀ d ∈ ys, d.flat.length = sz) (hro : Nat.ble C.ro id = true) {dst : Option Nat} (hd : DstOk C.N dst)
    (h : alex C false ops rest K (put σ dst (.d (.val (.int .i64 (min ys.length xs.length : Nat))))) (η.set id (.buf true e sz (ys.take xs.length ++ xs.drop ys.length)))) :
    astep C false ops ⟨dst, .call ⟨.builtin .copy, #[x, y], #[t, t2]⟩, ty, pos, after, gd⟩ rest K σ η := by
  subst hn
  refine estep (fun g a w ha => ?_) h
  obtain ⟨e', i, hu, hi, hsz⟩ := elemSize_some hs
  have hro := Nat.le_of_ble_eq_true hro
  have hxr := ha.eval x; rw [hx] at hxr
  obtain ⟨hidn, hxv⟩ := hxr
  obtain ⟨sa, sc, news, hyv, _, _, hnl, hn1, hncell, hnrep⟩ := (hy.rep ha.inv (ha.eval y)).open_slice hf
  obtain ⟨o1, o2, o3, o4, o5⟩ := ha.inv.ob id _ ho
  let m := min ys.length xs.length
  have hml : m * sz ≤ ys.length * sz := Nat.mul_le_mul_right _ (Nat.min_le_left _ _)
  have hmx : m * sz ≤ xs.length * sz := Nat.mul_le_mul_right _ (Nat.min_le_right _ _)
  have hfl : (flats xs).length = xs.length * sz := flats_len o2
  have hres : ys.take xs.length ++ xs.drop ys.length = ys.take m ++ xs.drop m := by
    rcases Nat.le_total ys.length xs.length with hle | hle
    · have e1 : m = ys.length := Nat.min_eq_left hle
      rw [e1, List.take_of_length_le hle, List.take_length]
    · have e1 : m = xs.length := Nat.min_eq_right hle
      rw [e1, List.drop_of_length_le hle, List.drop_of_length_le (Nat.le_refl _)]
  have hfirst : (Builtin.firstCells i.size m (.slice sa ys.length sc)).run C.P w = .ok (news.take (m * sz)).toArray w := by
    by_cases h0 : 0 < ys.length
    · obtain ⟨ad, rfl, hcc⟩ := hncell h0
      refine run_firstCells_some (P := C.P) w i.size m ad ys.length sc (news.take (m * sz)) (by rw [List.length_take, hnl, hsz]; omega) (fun j v hj => ?_)
      rw [List.getElem?_take] at hj
      split at hj
      · exact (hcc j v hj).2
      · cases hj
    · have hm0 : m = 0 := by show min _ _ = 0; omega
      rw [hm0]
      cases sa <;> simp [Builtin.firstCells, loadCells, loadCellsFrom]
  have hlx : (ys.take m ++ xs.drop m).length = xs.length := by
    have hm1 : m ≤ ys.length := Nat.min_le_left _ _
    have hm2 : m ≤ xs.length := Nat.min_le_right _ _
    rw [List.length_append, List.length_take, List.length_drop]; omega
  have hff : ∀ d ∈ ys.take m ++ xs.drop m, d.flat.length = sz := fun d hd => by
    rcases List.mem_append.1 hd with hd | hd
    · exact hf d (List.mem_of_mem_take hd)
    · exact o2 d (List.mem_of_mem_drop hd)
  have hkey : ∃ w', (Builtin.copy_ #[t, t2] ty #[a.eval x, a.eval y]).run C.P w = .ok (goInt (m : Nat)) w' ∧ AbsG C g σ (η.set id (.buf true e sz (ys.take m ++ xs.drop m))) a w' := by
    rcases o5 with ⟨h1, h2⟩ | ⟨b, us, h1, h2, h3, h4, h5, h6⟩
    · have hx0 : xs = [] := List.eq_nil_of_length_eq_zero (by omega)
      subst hx0
      have hm0 : m = 0 := by show min _ _ = 0; simp
      refine ⟨w, ?_, ?_⟩
      · rw [hxv, hyv, h1]
        rw [hm0] at hfirst
        simp [Builtin.copy_, run_underlying hu, Builtin.lenOf, sizeOf, typeInfo, hi, hfirst, hm0]
      · rw [hm0]
        have : η.set id (.buf true e sz ([].take 0 ++ [].drop 0)) = η := by
          refine List.ext_getElem? fun j => ?_
          rw [List.getElem?_set]
          split
          · rename_i hj; subst hj; rw [if_pos (List.getElem?_eq_some_iff.1 ho).1, ho]; rfl
          · rfl
        simp only [List.take_zero, List.drop_nil, List.append_nil] at this ⊢
        rw [this]; exact ha
    · have hxu : xs.length * sz ≤ us.size := by rw [h3]; exact Nat.mul_le_mul_right _ o4
      have hln : (news.take (m * sz)).length = m * sz := by rw [List.length_take]; omega
      have hst := run_storeCells_at C.P b 0 e (news.take (m * sz)) 0 us w h2 (by omega) (fun v hv => hn1 v (List.mem_of_mem_take hv))
      simp only [Nat.add_zero, List.take_zero, List.nil_append, Nat.zero_add, hln] at hst
      refine ⟨_, ?_, ha.writeBuf (us' := (news.take (m * sz) ++ us.toList.drop (m * sz)).toArray) ho hro h1 h2 (fun o hc => by have := (h6 o).1 hc; cases this.1) hff (by rw [hlx]; exact o4) (by simp [hln]; omega) h3 (fun j u hj hu' => ?_) (fun j u d' hu' hd' => ?_)⟩
      · rw [hxv, hyv, h1]
        simp [Builtin.copy_, run_underlying hu, Builtin.lenOf, sizeOf, typeInfo, hi, hfirst, hst, m]
      · rw [List.getElem?_toArray] at hu'
        rcases Nat.lt_or_ge j (m * sz) with hj2 | hj2
        · rw [List.getElem?_append_left (by omega)] at hu'
          exact hn1 u (List.mem_of_mem_take (List.mem_of_getElem? hu'))
        · rw [List.getElem?_append_right (by omega), hln, List.getElem?_drop, Array.getElem?_toList] at hu'
          rw [hlx] at hj
          exact h4 _ u (by omega) hu'
      · rw [List.getElem?_toArray] at hu'
        rw [flats_append, flats_take hf, flats_drop o2] at hd'
        have hly : ((flats ys).take (m * sz)).length = m * sz := by rw [List.length_take, flats_len hf]; omega
        rcases Nat.lt_or_ge j (m * sz) with hj2 | hj2
        · rw [List.getElem?_append_left (by omega), List.getElem?_take, if_pos hj2] at hu' hd'
          exact hnrep j u d' hu' hd'
        · rw [List.getElem?_append_right (by omega), List.getElem?_drop] at hu' hd'
          rw [hln, Array.getElem?_toList] at hu'
          rw [hly] at hd'
          exact h5 _ u d' hu' hd'
  obtain ⟨w', hrun, hab⟩ := hkey
  rw [← hres] at hab
  refine ⟨.int .i64 (m : Nat), w', ?_, g, hab.put (d := dst) hd (.val _)⟩
  simp only [execOp, resolve, invoke, builtin, Sem.run_bind, Sem.run_pure, Result.andThen_ok, List.map_toArray, List.map_cons, List.map_nil, hrun]
  rfl

/-- one element, of one cell, of a row that may be written -/
theorem aStoreB {id i n e : Nat} {xs : List D} {c : D} (hx : oval σ x = .bptr id i 0) (hy : oval σ y = .d c) (hc : one (.d c) = true) (ht : tyCells C.P t = some (false, n)) (hn : Nat.beq n 1 = true) (ho : η[id]? = some (.buf true e 1 xs)) (hi : i < xs.length) (hro : Nat.ble C.ro id = true)
    (h : alex C false ops rest K σ (η.set id (.buf true e 1 (xs.set i c)))) : astep C false ops ⟨none, .store t x y, ty, pos, after, gd⟩ rest K σ η := by
  have hn := Nat.eq_of_beq_eq_true hn
  subst hn
  refine estep0 (fun g a w ha => ?_) h
  have hp := ha.eval x; rw [hx] at hp
  have hr := ha.eval y; rw [hy] at hr
  obtain ⟨hid, b, hb, hpv⟩ := hp
  obtain ⟨o1, o2, o3, o4, o5⟩ := ha.inv.ob id _ ho
  rcases o5 with ⟨h1, _⟩ | ⟨b', us, h1, h2, h3, h4, h5, h6⟩
  · rw [h1] at hb; cases hb
  · rw [hb] at h1; injection h1 with h1; subst h1
    obtain ⟨c1, c2⟩ := RepS.one (g := g) (w := w) (s := .d c) hr hc
    have hst := run_storeCells_at C.P b i e [a.eval y] 0 us w h2 (by simp; omega) (fun v hv => by simp at hv; subst hv; exact c2)
    simp only [Nat.add_zero, List.length_singleton] at hst
    have hcf : c.flat = [c] := by
      cases c with
      | agg cs => cases hc
      | _ => rfl
    have hfx : ∀ (l : List D), (∀ x ∈ l, x.flat.length = 1) → ∀ (j : Nat), (flats l)[j]? = (l[j]?).bind (fun (d : D) => d.flat[0]?) := by
      intro l hl j
      rcases Nat.lt_or_ge j l.length with hj | hj
      · have := flats_at (sz := 1) hl (List.getElem?_eq_getElem hj) (j := 0) (by omega)
        rw [Nat.mul_one, Nat.add_zero] at this
        rw [this, List.getElem?_eq_getElem hj]; rfl
      · rw [List.getElem?_eq_none hj, List.getElem?_eq_none (by rw [flats_len hl]; omega)]; rfl
    have hset : ∀ x ∈ xs.set i c, x.flat.length = 1 := fun x hx => by
      rcases List.mem_or_eq_of_mem_set hx with h | h
      · exact o2 x h
      · rw [h, hcf]; rfl
    refine ⟨_, ?_, g, ha.writeBuf (us' := (us.toList.take i ++ [a.eval y] ++ us.toList.drop (i + 1)).toArray) ho (Nat.le_of_ble_eq_true hro) hb h2 (fun o hc => by have := (h6 o).1 hc; cases this.1) hset (by rw [List.length_set]; exact o4) (by simp; omega) h3 (fun j u hj hu => ?_) (fun j u d' hu hd' => ?_)⟩
    · rw [o1, Nat.mul_one, Nat.add_zero] at hpv
      simp only [execOp, hpv, Instr.storeAt, Instr.sureAddr, storeVar, Sem.run_bind, Sem.run_pure, Result.andThen_ok, (tyCells_some ht w).2, c1, ne_eq]
      simp [hst]
    · rw [List.getElem?_toArray] at hu
      have hm := List.mem_of_getElem? hu
      rcases Nat.lt_trichotomy j i with hji | hji | hji
      · rw [List.append_assoc, List.getElem?_append_left (by simp; omega), List.getElem?_take, if_pos hji, Array.getElem?_toList] at hu
        rw [List.length_set] at hj
        exact h4 j u hj hu
      · subst hji
        rw [List.append_assoc, List.getElem?_append_right (by simp; omega)] at hu
        have e1 : (us.toList.take j).length = j := by rw [List.length_take, Array.length_toList]; omega
        rw [e1, Nat.sub_self] at hu
        simp at hu; subst hu; exact c2
      · rw [List.append_assoc, List.getElem?_append_right (by simp; omega)] at hu
        have e1 : (us.toList.take i).length = i := by rw [List.length_take, Array.length_toList]; omega
        rw [e1, List.getElem?_append_right (by simp; omega), List.length_singleton, List.getElem?_drop, Array.getElem?_toList] at hu
        rw [List.length_set] at hj
        exact h4 _ u (by omega) hu
    · rw [List.getElem?_toArray] at hu
      rw [hfx _ hset, List.getElem?_set] at hd'
      rcases Nat.lt_trichotomy j i with hji | hji | hji
      · rw [List.append_assoc, List.getElem?_append_left (by simp; omega), List.getElem?_take, if_pos hji, Array.getElem?_toList] at hu
        rw [if_neg (by omega), ← hfx _ o2] at hd'
        exact h5 j u d' hu hd'
      · subst hji
        rw [List.append_assoc, List.getElem?_append_right (by simp; omega)] at hu
        have e1 : (us.toList.take j).length = j := by rw [List.length_take, Array.length_toList]; omega
        rw [e1, Nat.sub_self] at hu
        simp at hu; subst hu
        rw [if_pos rfl, if_pos hi, Option.bind_some, hcf] at hd'
        simp at hd'; subst hd'; exact hr
      · rw [List.append_assoc, List.getElem?_append_right (by simp; omega)] at hu
        have e1 : (us.toList.take i).length = i := by rw [List.length_take, Array.length_toList]; omega
        rw [e1, List.getElem?_append_right (by simp; omega), List.length_singleton, List.getElem?_drop, Array.getElem?_toList] at hu
        rw [if_neg (by omega), ← hfx _ o2] at hd'
        have e2 : i + 1 + (j - i - 1) = j := by omega
        rw [e2] at hu
        exact h5 j u d' hu hd'
end

end Go.Sx
