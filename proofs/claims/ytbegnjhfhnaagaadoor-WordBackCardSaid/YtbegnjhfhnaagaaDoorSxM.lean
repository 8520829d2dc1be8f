/- The engine: places in what reads as a list; literals that are not appended to; calls that hand over a row of their own. -/
import Derived.Test.YtbegnjhfhnaagaaDoorSxL
import Derived.Lib.AppendZeros
namespace Go.Sx
open Go.RowKit

section
variable {P : Program} {η : List Ob} {σ : Sl} {dst : Option Nat} {ty : TypeId} {pos : String} {after : Array Edge} {gd : Option (Nat × Bool)} {t : TypeId} {x y z : Operand}

theorem Y_indexC {sz : Nat} {n : Int} {xs : List D} {d : D} {k : IntKind} (hc : Co η (oval σ x) (.slice xs)) (hy : oval σ y = .d (.val (.int k n))) (hs : elemSize P t = some sz) (h0 : 0 ≤ n) (hd : xs[n.toNat]? = some d) (hf : ∀ d ∈ xs, d.flat.length = sz) :
    Ylds P η σ ⟨dst, .indexAddr t x y, ty, pos, after, gd⟩ (.rptr d.flat) := by
  obtain ⟨e, i, hu, hi', hsz'⟩ := elemSize_some hs
  refine Ylds.same fun g w a hi h => ?_
  have h2 := h y (by simp [Op.operands]); rw [hy] at h2
  obtain ⟨oa, cap, us, hv, hcap, hm, hul, h1c, hcell, hrep⟩ := (hc.rep hi (h x (by simp [Op.operands]))).open_slice hf
  have hlt : n.toNat < xs.length := (List.getElem?_eq_some_iff.1 hd).1
  have hfd := hf d (List.mem_of_getElem? hd)
  obtain ⟨ad, rfl, hcc⟩ := hcell (by omega)
  have hmul : (n.toNat + 1) * sz ≤ xs.length * sz := Nat.mul_le_mul_right _ (by omega)
  refine ⟨.pointer (some (ad.add (n.toNat * sz))), ?_, ad.add (n.toNat * sz), (us.drop (n.toNat * sz)).take sz, rfl, ?_, ?_, ?_, ?_⟩
  · have hb : 0 ≤ n ∧ n < (xs.length : Int) := ⟨h0, by omega⟩
    simp [execOp, hv, RepD.val_eq h2, Instr.indexAt, asIntOf, run_underlying hu, hb.1, hb.2, sizeOf, typeInfo, hi', hsz']
  · rw [List.length_take, List.length_drop, hfd, hul]; rw [Nat.add_mul] at hmul; omega
  · exact fun u hm => h1c u (List.mem_of_mem_drop (List.mem_of_mem_take hm))
  · intro j u hj
    rw [List.getElem?_take] at hj
    split at hj
    · rw [list_drop_get] at hj; exact (hcc _ _ hj).shift
    · cases hj
  · intro j u d' hj hd'
    rw [List.getElem?_take] at hj
    split at hj
    · rename_i hlt'
      rw [list_drop_get] at hj
      exact hrep _ _ _ hj ((flats_at hf hd hlt').trans hd')
    · cases hj

/-- a slice literal that is only read -/
theorem Y_lit {sz e n : Nat} {xs : List Operand} {ds : List D} (he : elemTy P t = some e) (hs : elemSize P t = some sz) (hz : (zeroOf P e).isSome = true) (hp : Nat.blt 0 sz = true) (hb : Nat.ble (n * sz) 16777216 = true) {parts : Array (Nat × Operand)} (hparts : parts = ((xs.zipIdx 0).map fun x => (x.2, x.1)).toArray)
    (hl : xs.length = n) (hc : CoL η σ xs ds) (hf : ∀ d ∈ ds, d.flat.length = sz) (hok : ds.all okc = true) : Ylds P η σ ⟨dst, .buildSlice t n parts, ty, pos, after, gd⟩ (.d (.slice ds)) := by
  have hp : 0 < sz := by simpa using hp
  have hb := Nat.le_of_ble_eq_true hb
  subst hparts
  intro g w a hinv hop
  refine .inl ?_
  obtain ⟨e', i, hu, hi, hsz⟩ := elemSize_some hs
  have : e' = e := by have := elemTy_some he; rw [hu] at this; injection this with this; injection this
  subst this
  have hrep := CoL.rep (a := a) hinv xs ds (fun x hx => hop x (by
    simp only [Op.operands, List.map_map, List.mem_toArray, List.mem_map]
    obtain ⟨j, hj, rfl⟩ := List.mem_iff_getElem.1 hx
    exact ⟨(xs[j], j), by rw [List.mem_iff_getElem]; exact ⟨j, by simpa using hj, by simp⟩, rfl⟩)) hc
  have hlen := hrep.len
  rw [List.length_map] at hlen
  obtain ⟨i1, i2⟩ := RepDs.cells _ ds hrep hf hok
  have hfl := flatMap_len (sz := sz) (xs.map a.eval) (fun v hv => (i1 v hv).1)
  rw [List.length_map, hl] at hfl
  let us := ((xs.map a.eval).flatMap fun v => v.cells.toList).toArray
  have hus : us.size = n * sz := by simpa [us] using hfl
  have hpe : ((((xs.zipIdx 0).map fun x => (x.2, x.1)).toArray).map fun (p : Nat × Operand) => (p.1, a.eval p.2)).toList = (((xs.map a.eval).zipIdx 0).map fun x => (x.2, x.1)) := by
    simp [List.zipIdx_map, List.map_map, Function.comp_def]
  have hrun : (Instr.buildSlice t n ((((xs.zipIdx 0).map fun x => (x.2, x.1)).toArray).map fun (p : Nat × Operand) => (p.1, a.eval p.2))).run P w = .ok (.slice (some ⟨w.heap.size, 0, none⟩) n n) (w.alloc (.cells us e')) := by
    have hzz : ∃ z, i.zero = some z := by
      unfold zeroOf at hz; rw [hi] at hz
      cases hq : i.zero with
      | none => simp [hq] at hz
      | some z => exact ⟨z, rfl⟩
    obtain ⟨z, hzz⟩ := hzz
    by_cases h0 : n = 0
    · subst h0
      have hx : xs = [] := List.eq_nil_of_length_eq_zero hl
      subst hx
      simp [Instr.buildSlice, run_underlying hu, sizeOf, typeInfo, hi, newRow, Instr.fill, us, Array.range_zero']
    · have hne : ¬ n * i.size = 0 := by rw [hsz]; intro h; rcases Nat.mul_eq_zero.1 h with h | h <;> omega
      have hfw := Great.fill_whole hp (xs.map a.eval) ((Array.range (n * i.size)).map (z.cells[· % z.cells.size]!)) (fun v hv => (i1 v hv).1) (by simp [hl, hsz])
      exact run_buildSlice w t e' n _ us i z hu hi hzz (by rw [hsz]; omega) hne (by rw [hpe]; rw [← hsz] at hfw; exact hfw)
  let g' : Gh := { g with St := fun b o => g.St b o ∨ (b = w.heap.size ∧ o < n * sz) }
  have hgr : Grow g w g' (w.alloc (.cells us e')) := ⟨rfl, rfl, rfl, rfl, rfl, rfl, rfl, by simp, fun k hk => Below.heap_alloc w _ k hk, fun _ _ h => .inl h, fun b o h => h.imp_right fun h => by omega, fun b o h => by
    rcases h with h | h
    · exact Nat.lt_of_lt_of_le (hinv.st b o h) (by simp)
    · rw [h.1]; simp⟩
  refine ⟨_, g', _, by simp only [execOp, Sem.run_bind]; rw [hrun]; rfl, hgr, ?_⟩
  have hfds : (flats ds).length = n * sz := by rw [flats_len hf, ← hlen, hl]
  have hn63 : n ≤ maxLen := by simp only [maxLen]; have : n * 1 ≤ n * sz := Nat.mul_le_mul_left _ hp; omega
  refine RepD.slice _ n n sz ds us.toList (by omega) (Nat.le_refl _) hn63 hf (by rw [Array.length_toList, hus, hfds]) (fun u hu => ?_) (fun h0 => ⟨_, rfl, fun j u hj => ⟨.inr ⟨rfl, ?_⟩, ?_⟩⟩) (fun j u d hu hd => ?_)
  · simp only [us, List.mem_flatMap] at hu
    obtain ⟨v, hv, hm⟩ := hu
    exact (i1 v hv).2 u (by simpa using hm)
  · have := (List.getElem?_eq_some_iff.1 hj).1
    rw [Array.length_toList, hus] at this; simpa using this
  · rw [Addr.add_lit, Nat.zero_add, cell_of_row _ _ j us e' (0, 0) (_root_.Go.heap_alloc_new w _)]
    rw [← Array.getElem?_toList]; exact hj
  · exact (i2 j u d (by simpa [us] using hu) hd).keep (hgr.keep hinv.st)

theorem Y_cap_nil (hx : oval σ x = .nil) (hu : (elemTy P t).isSome = true) : Ylds P η σ ⟨dst, .call ⟨.builtin .cap, #[x], #[t]⟩, ty, pos, after, gd⟩ (.d (.val (.int .i64 0))) := by
  obtain ⟨e, he⟩ := Option.isSome_iff_exists.1 hu
  refine Ylds.same fun g w a hi h => ⟨.int .i64 0, ?_, .val _⟩
  have h1 := h x (by simp [Op.operands, Call.operands]); rw [hx] at h1
  change _ = _ at h1
  simp [execOp, resolve, invoke, builtin, Builtin.cap_, run_underlying (elemTy_some he), h1, goInt]

theorem Y_sl_nil {k : IntKind} (hx : oval σ x = .nil) (hs : (elemSize P t).isSome = true) (hz : oval σ z = .d (.val (.int k 0))) : Ylds P η σ ⟨dst, .slice t x none (some z) none, ty, pos, after, gd⟩ .nil := by
  obtain ⟨sz, hs⟩ := Option.isSome_iff_exists.1 hs
  obtain ⟨e, i, hu, hi', hsz⟩ := elemSize_some hs
  refine Ylds.same fun g w a hi h => ⟨.slice none 0 0, ?_, rfl⟩
  have h1 := h x (by simp [Op.operands]); rw [hx] at h1
  have h2 := h z (by simp [Op.operands]); rw [hz] at h2
  change _ = _ at h1
  have := run_sliceAt hu hi' none 0 0 0 0 none (some (a.eval z)) (.inl ⟨rfl, rfl⟩) (.inr ⟨k, by rw [RepD.val_eq h2]; rfl⟩) (Nat.le_refl _) (Nat.le_refl _) w
  simp only [execOp, h1, Sem.run_bind, Sem.run_pure, Option.map_none, Option.map_some, this, Result.andThen_ok]
  rfl

/-- an aggregate of plain cells is that aggregate -/
theorem RepD.agg_vals {St : Stab} {w : World} {v : Value} {us : List Value} (h : RepD St w v (.agg (us.map .val))) : v = .agg us.toArray := by
  cases h with
  | agg vs _ hl h1 hr =>
    congr 1
    congr 1
    refine List.ext_getElem? fun j => ?_
    rw [List.length_map] at hl
    rcases Nat.lt_or_ge j vs.length with hj | hj
    · have e1 : vs[j]? = some vs[j] := List.getElem?_eq_getElem hj
      have e2 : us[j]? = some (us[j]'(by omega)) := List.getElem?_eq_getElem (by omega)
      have := (hr j _ (.val (us[j]'(by omega))) e1 (by rw [List.getElem?_map, e2]; rfl)).val_eq
      rw [e1, e2, this]
    · rw [List.getElem?_eq_none hj, List.getElem?_eq_none (by omega)]

theorem Y_binA {op : BinOp} {yt : TypeId} {us vs : List Value} {r : Value} (hx : oval σ x = .d (.agg (us.map .val))) (hy : oval σ y = .d (.agg (vs.map .val)))
    (hr : ∀ w, ((do eqGuard op t x y (.agg us.toArray) (.agg vs.toArray); binOp op t (.agg us.toArray) (.agg vs.toArray) : Sem Value)).run P w = .ok r w) : Ylds P η σ ⟨dst, .binOp op t x y yt, ty, pos, after, gd⟩ (.d (.val r)) := by
  refine Ylds.same fun g w a hi h => ⟨r, ?_, .val r⟩
  have h1 := h x (by simp [Op.operands]); rw [hx] at h1
  have h2 := h y (by simp [Op.operands]); rw [hy] at h2
  have := hr w
  simp only [execOp, RepD.agg_vals h1, RepD.agg_vals h2, Sem.run_bind, Sem.run_pure] at this ⊢
  generalize (eqGuard op t x y (.agg us.toArray) (.agg vs.toArray)).run P w = A at this ⊢
  cases A with
  | ok q w' => simp only [Result.andThen_ok] at this ⊢; rw [this]; rfl
  | halt q w' => simp only [Result.andThen_halt] at this; cases this
end

section
variable {C : Ctx} {dr : Bool} {ops : Array Oper} {rest : List Oper} {K : Sl → List Ob → Prop} {σ : Sl} {η : List Ob} {d : Nat} {ty : TypeId} {pos : String} {after : Array Edge} {gd : Option (Nat × Bool)} {t : TypeId} {x y : Operand} {α : Type} {enc : α → D} {L : List α}

/-- a place in a list: what stands there -/
theorem aI {sz : Nat} {n : Int} {k : IntKind} (hc : Co η (oval σ x) (.slice (L.map enc))) (hy : oval σ y = .d (.val (.int k n))) (hs : elemSize C.P t = some sz) (hd : Nat.blt d C.N = true)
    (hf : ∀ v, (enc v).flat.length = sz) (h0 : 0 ≤ n ∧ n < (L.length : Int)) (h : ∀ v, L[n.toNat]? = some v → alex C dr ops rest K ((d, .rptr (enc v).flat) :: σ) η) :
    astep C dr ops ⟨some d, .indexAddr t x y, ty, pos, after, gd⟩ rest K σ η := by
  have hlt : n.toNat < L.length := by omega
  have hv : L[n.toNat]? = some L[n.toNat] := List.getElem?_eq_getElem hlt
  exact ay hd (Y_indexC hc hy hs h0.1 (by rw [List.getElem?_map, hv]; rfl) (fun d hd => by obtain ⟨v, _, rfl⟩ := List.mem_map.1 hd; exact hf v)) (h _ hv)
/-- the same, where it is known what stands there -/
theorem aJ {sz : Nat} {n : Int} {k : IntKind} {v : α} (hc : Co η (oval σ x) (.slice (L.map enc))) (hy : oval σ y = .d (.val (.int k n))) (hs : elemSize C.P t = some sz) (hv : L[n.toNat]? = some v) (h0 : 0 ≤ n) (hd : Nat.blt d C.N = true)
    (hf : ∀ v, (enc v).flat.length = sz) (h : alex C dr ops rest K ((d, .rptr (enc v).flat) :: σ) η) :
    astep C dr ops ⟨some d, .indexAddr t x y, ty, pos, after, gd⟩ rest K σ η :=
  ay hd (Y_indexC hc hy hs h0 (by rw [List.getElem?_map, hv]; rfl) (fun d hd => by obtain ⟨v, _, rfl⟩ := List.mem_map.1 hd; exact hf v)) h

/-- append(nil, make([]T, n)...) -/
theorem aAppMk {e sz by' : Nat} {zd : D} {n : Int} {k kn : IntKind} {tn : TypeId} (hx : oval σ x = .nil) (hy : oval σ y = .d (.val (.int k n))) (htn : C.P.underlying tn = some (.int kn)) (he : elemTy C.P t = some e) (hs : elemSize C.P t = some sz) (hz : zeroD C.P e = some zd) (hzl : zd.flat.length = sz) (hp : Nat.blt 0 sz = true) (hb : bytesOf C.P t = some by')
    (hd : Nat.blt d C.N = true) (hro : Nat.ble C.ro η.length = true) (hn : 0 < n ∧ n * by' ≤ 281474976710656 ∧ n ≤ 281474976710656)
    (h : alex C false ops rest K ((d, .buf η.length n.toNat) :: σ) (η ++ [.buf true e sz (List.replicate n.toNat zd)])) :
    astep C false ops ⟨some d, .call ⟨.builtin .append, #[x, y], #[t, tn]⟩, ty, pos, after, gd⟩ rest K σ η := by
  have hp : 0 < sz := by simpa using hp
  refine estep (fun g a w ha => ?_) h
  obtain ⟨e', i, hu, hi, hsz⟩ := elemSize_some hs
  have : e' = e := by have := elemTy_some he; rw [hu] at this; injection this with this; injection this
  subst this
  have hby : i.bytes = by' := by
    obtain ⟨e2, i2, h1, h2, h3⟩ := bytesOf_some hb
    rw [hu] at h1; injection h1 with h1; injection h1 with h1; subst h1
    rw [hi] at h2; injection h2 with h2; subst h2; exact h3
  obtain ⟨z, hzz, hzs, hz1, hzr⟩ := zeroD_some hi hz
  have hxr := ha.eval x; rw [hx] at hxr
  change _ = _ at hxr
  have hyr := ha.eval y; rw [hy] at hyr
  obtain ⟨m, rfl⟩ : ∃ m : Nat, n = m := ⟨n.toNat, by omega⟩
  rw [Int.toNat_natCast]
  have hrun := Lib.run_append_nil_zeros (P := C.P) w t tn ty e' i z k kn hu htn hi hzz m (by omega) (by omega) (by omega) (by rw [hby]; exact Int.ofNat_le.1 (by rw [Int.natCast_mul]; exact hn.2.1))
  have hge := grownCap_ge w m 0 e'
  have hcm := grownCap_le_maxLen w m 0 e' (by simp only [maxLen]; omega)
  have hzc : z.cells.size = sz := by rw [hzs, hzl]
  have hget : ∀ (c j : Nat) (u : Value), (Builtin.zeroCells z.cells c)[j]? = some u → j < c * sz ∧ z.cells[j % sz]? = some u := by
    intro c j u hu
    unfold Builtin.zeroCells at hu
    obtain ⟨hj, hu⟩ := Array.getElem?_eq_some_iff.1 hu
    simp [hzc] at hj
    simp only [Array.getElem_map, Array.getElem_range, hzc] at hu
    have hm : j % sz < z.cells.size := by rw [hzc]; exact Nat.mod_lt _ hp
    rw [getElem!_pos z.cells (j % sz) hm] at hu
    exact ⟨hj, by rw [Array.getElem?_eq_getElem hm, hu]⟩
  have hg0 : ∀ (j : Nat) (u : Value), (Builtin.zeroCells z.cells m ++ Builtin.zeroCells z.cells (grownCap w m 0 e' - m))[j]? = some u → j < m * sz → z.cells[j % sz]? = some u := by
    intro j u hu hj
    rw [Array.getElem?_append_left (by rw [size_zeroCells, hzc]; exact hj)] at hu
    exact (hget m j u hu).2
  have hbuf := ha.newBuf (w' := w.drew.alloc (.cells (Builtin.zeroCells z.cells m ++ Builtin.zeroCells z.cells (grownCap w m 0 e' - m)) e')) true e' sz (grownCap w m 0 e') _ (List.replicate m zd) rfl rfl rfl (by simp) (fun k hk => Below.heap_alloc w.drew _ k hk) (_root_.Go.heap_alloc_new w.drew _) (Nat.le_of_ble_eq_true hro)
    (fun x hx => by rw [List.eq_of_mem_replicate hx]; exact hzl) (by simpa using hge) hcm (by rw [Array.size_append, size_zeroCells, size_zeroCells, hzc, ← Nat.add_mul]; congr 1; omega)
    (fun j u hj hu => hz1 u (Array.mem_of_getElem? (hg0 j u hu (by simpa using hj))))
    (fun j u d' hu hd' => by
      have hj : j < m * sz := by
        have := (List.getElem?_eq_some_iff.1 hd').1
        rw [flats_len (sz := sz) (fun x hx => by rw [List.eq_of_mem_replicate hx]; exact hzl)] at this
        simpa using this
      rw [flats_rep m zd j (by rw [hzl]; exact hp) (by rw [hzl]; exact hj), hzl] at hd'
      exact hzr g.St w _ u d' (hg0 j u hu hj) hd')
  refine ⟨_, _, by simp only [execOp, resolve, invoke, builtin, Sem.run_bind, Sem.run_pure, Result.andThen_ok, List.map_toArray, List.map_cons, List.map_nil, hxr, RepD.val_eq hyr, hrun]; rfl, _, hbuf.put (d := some d) hd ⟨?_, ?_⟩⟩
  · show η.length < g.n + 1; have := ha.inv.n; omega
  · have hn' := ha.inv.n
    show _ = Value.slice ((upd g.blk g.n (some w.heap.size) η.length).map _) _ (upd g.cap g.n (grownCap w m 0 e') η.length)
    rw [← hn']; simp [upd]

/-- a slot that is known to be the nil slice -/
theorem awp_nil {Q : Exit → Sl → List Ob → Prop} {c : Code} (u : Nat) (hu : get σ u = .d (.val (.slice none 0 0))) (h : awp C c Q ((u, .nil) :: σ) η) : awp C c Q σ η := by
  intro R hR a w ⟨g, ha⟩
  refine h R hR a w ⟨g, { ha with rep := fun v => ?_ }⟩
  rw [get_cons]
  split
  · rename_i e; subst e
    have := ha.rep u; rw [hu] at this
    exact RepD.val_eq this
  · exact ha.rep v
end

/-- What a call of f hands over: a row of the caller's own from now on. -/
def FCall (P : Program) (f : FuncId) (ds : List D) (n : Nat) (e sz : Nat) (xs : List D) : Prop :=
  ∀ (St : Stab) (w : World) (vs : List Value), (∀ b o, St b o → b < w.heap.size) → Glob St w → RepDs St w vs ds →
    Calls P f vs.toArray w (fun r w' => ∃ ob cap St', r = .returned (.slice (ob.map (⟨·, 0, none⟩)) n cap) ∧ Below w.heap.size w w' ∧ Keep St w St' w' ∧
      (∀ b o, St' b o → St b o ∨ w.heap.size ≤ b) ∧ (∀ b o, St' b o → b < w'.heap.size) ∧ cap ≤ maxLen ∧ xs.length ≤ cap ∧ (∀ x ∈ xs, x.flat.length = sz) ∧
      ((ob = none ∧ cap = 0) ∨ ∃ b us, ob = some b ∧ w.heap.size ≤ b ∧ w'.heap[b]? = some (.cells us e (0, 0)) ∧ us.size = cap * sz ∧ (∀ (j : Nat) (u : Value), j < xs.length * sz → us[j]? = some u → u.oneCell' = true) ∧
        (∀ (j : Nat) (u : Value) (d : D), us[j]? = some u → (flats xs)[j]? = some d → RepD St' w' u d) ∧ ∀ o, ¬ St' b o))

def FPost (rs : Array ResultVar) (n e sz : Nat) (xs : List D) (σ : Sl) (η : List Ob) : Prop :=
  ∃ r, rs = #[.tmp r] ∧ ((get σ r = .nil ∧ xs = [] ∧ n = 0) ∨ ∃ id, get σ r = .buf id n ∧ η[id]? = some (.buf true e sz xs))

def fpost (rs : Array ResultVar) (n e sz : Nat) (xs : List D) : Exit → Sl → List Ob → Prop
  | .ret, σ, η => FPost rs n e sz xs σ η
  | _, _, _ => False
theorem fpost_ret {rs : Array ResultVar} {n e sz : Nat} {xs : List D} {σ : Sl} {η : List Ob} (h : FPost rs n e sz xs σ η) : fpost rs n e sz xs .ret σ η := h

theorem fcall_of {P : Program} {f : FuncId} {fn : Func} {c : Code} {ds : List D} {n e sz : Nat} {xs : List D} {N : Nat} {rs : Array ResultVar} (hf : P.funcs[f]? = some fn) (hb : fn.body = some c) (hN : fn.ntmps = N) (hrs : fn.results = rs) (hl : Nat.ble ds.length N = true) (hxs : ∀ x ∈ xs, x.flat.length = sz)
    (h : ∀ (w0 : World) (St0 : Stab), awp ⟨P, N, w0, St0, fun _ => False, 0⟩ c (fpost rs n e sz xs) (args0 ds 0) []) : FCall P f ds n e sz xs := by
  intro St w vs hst hgl hrep
  subst hN
  have hl := Nat.le_of_ble_eq_true hl
  have hlen := hrep.len
  refine calls_of_wp hf hb (h w St _ ?_ _ _ ?_)
  · intro ex σ' η' a' w' hq ⟨g, ha⟩
    cases ex with
    | ret =>
      obtain ⟨r, rfl, hq⟩ := hq
      have hnew : ∀ b o, g.St b o → St b o ∨ w.heap.size ≤ b := fun b o hb => by
        rcases ha.new b o hb with h1 | h1 | h1
        · exact .inl h1
        · exact .inr h1
        · exact h1.elim
      have hbel : Below w.heap.size w w' := ⟨ha.os, ha.tape, ha.output, ha.wsize, fun k hk => ha.heap k hk (fun h => h)⟩
      refine ⟨ha.defers, _, results_tmp hrs _ _ _, ?_⟩
      rcases hq with ⟨hq, rfl, rfl⟩ | ⟨id, hq, ho⟩
      · have := ha.rep r; rw [hq] at this
        exact ⟨none, 0, g.St, congrArg Ending.returned this, hbel, ha.keep, hnew, ha.inv.st, Nat.zero_le _, Nat.le_refl _, by simp, .inl ⟨rfl, rfl⟩⟩
      · have := ha.rep r; rw [hq] at this
        obtain ⟨_, hv⟩ := this
        obtain ⟨o1, o2, o3, o4, o5⟩ := ha.inv.ob id _ ho
        refine ⟨g.blk id, g.cap id, g.St, congrArg Ending.returned hv, hbel, ha.keep, hnew, ha.inv.st, o3, o4, o2, ?_⟩
        rcases o5 with o5 | ⟨b, us, h1, h2, h3, h4, h5, h6⟩
        · exact .inl o5
        · refine .inr ⟨b, us, h1, ?_, h2, h3, h4, h5, fun o hc => by have := (h6 o).1 hc; cases this.1⟩
          rcases ha.own id b h1 (Nat.zero_le _) with h7 | h7
          · exact h7
          · exact h7.elim
    | _ => exact hq.elim
  · refine ⟨⟨St, fun _ => none, fun _ => 0, fun _ => 0, 0⟩, rfl, ?_, ⟨rfl, fun _ _ h => by simp at h, fun _ _ => rfl, fun _ _ _ h => by simp at h, fun _ _ h => by simp at h, hst, hgl⟩, rfl, rfl, rfl, Nat.le_refl _, fun _ _ _ => rfl, Keep.refl St w, fun _ _ h => .inl h, fun _ _ h => by simp at h, ?_⟩
    · simp [hlen]; omega
    · refine args0_rep vs ds 0 _ hrep fun j v hj => ?_
      have hjl : j < vs.length := (List.getElem?_eq_some_iff.1 hj).1
      simp only [Nat.zero_add, Array.getD_eq_getD_getElem?]
      rw [Array.getElem?_append_left (by simpa using hjl)]
      simp [hj]

section
variable {C : Ctx} {ops : Array Oper} {rest : List Oper} {K : Sl → List Ob → Prop} {σ : Sl} {η : List Ob} {d : Nat} {ty : TypeId} {pos : String} {after : Array Edge} {gd : Option (Nat × Bool)}
theorem aFCall {f : FuncId} {args : List Operand} {ts : Array TypeId} {ds : List D} {n e sz : Nat} {xs : List D} (hb : hasBody C.P f = true) (hc : FCall C.P f ds n e sz xs) (ha : CoL η σ args ds) (hd : Nat.blt d C.N = true) (hro : Nat.ble C.ro η.length = true)
    (h : alex C false ops rest K ((d, .buf η.length n) :: σ) (η ++ [.buf true e sz xs])) :
    astep C false ops ⟨some d, .call ⟨.value (.func f), args.toArray, ts⟩, ty, pos, after, gd⟩ rest K σ η := by
  intro Q hQ a w ⟨g, hg⟩ K' hK'
  have hr := CoL.rep (a := a) hg.inv args ds (fun x _ => hg.eval x) ha
  unfold Oper.wp
  have hrun : (execOp a.eval ⟨some d, .call ⟨.value (.func f), args.toArray, ts⟩, ty, pos, after, gd⟩).run C.P w = .ok (.enter f (args.map a.eval).toArray) w := by
    simp only [execOp, resolve, Act.eval, Deferred.ofValue, invoke, Sem.run_bind, Sem.run_pure, Result.andThen_ok, List.map_toArray, Array.empty_append, Array.append_empty]
    exact hasBody_run hb
  rw [hrun, Oper.upon_enter]
  refine (hc g.St w _ hg.inv.st hg.inv.gl hr).mono fun r w' ⟨ob, cap, St', he, hbel, hkeep, hnew, hlt, hcm, hxc, hfx, hob⟩ => ?_
  subst he
  refine hK' _ _ (h Q hQ _ w' ?_)
  have hn := hg.inv.n
  let g' : Gh := { St := St', blk := upd g.blk g.n ob, cap := upd g.cap g.n cap, sz := upd g.sz g.n sz, n := g.n + 1 }
  have hold : ∀ id, id < g.n → g'.blk id = g.blk id ∧ g'.cap id = g.cap id ∧ g'.sz id = g.sz id := fun id hid => by simp [g', upd, Nat.ne_of_lt hid]
  have hab := hg.newOb (g' := g') (w' := w') (.buf true e sz xs) hbel.os hbel.tape hbel.output hbel.size hbel.block rfl hold (fun id hid => by
      have hne : id ≠ g.n := by omega
      simp only [g', upd, if_neg hne]
      exact hg.inv.dead id (by omega)) (fun b hb => by
      have hb : ob = some b := by simpa [g', upd] using hb
      rcases hob with ⟨h1, _⟩ | ⟨b', us, h1, h2, h3, _⟩
      · rw [h1] at hb; cases hb
      · rw [h1] at hb; injection hb with hb; subst hb; exact ⟨h2, (Array.getElem?_eq_some_iff.1 h3).1⟩) hkeep.sub hnew hlt (by rw [hn]; exact Nat.le_of_ble_eq_true hro)
    ⟨by simp [g', upd], hfx, by simpa [g', upd] using hcm, by simpa [g', upd] using hxc, by
      rcases hob with ⟨h1, h2⟩ | ⟨b', us, h1, h2, h3, h4, h5, h6, h7⟩
      · exact .inl (by simp [g', upd, h1, h2])
      · exact .inr ⟨b', us, by simp [g', upd, h1], h3, by simpa [g', upd] using h4, h5, h6, fun o => ⟨fun hc => absurd hc (h7 o), fun hc => by cases hc.1⟩⟩⟩
  refine ⟨g', hab.put (d := some d) hd ⟨?_, ?_⟩⟩
  · show η.length < g.n + 1; omega
  · show _ = Value.slice ((upd g.blk g.n ob η.length).map _) _ (upd g.cap g.n cap η.length)
    rw [← hn]; simp [upd]
end

end Go.Sx
