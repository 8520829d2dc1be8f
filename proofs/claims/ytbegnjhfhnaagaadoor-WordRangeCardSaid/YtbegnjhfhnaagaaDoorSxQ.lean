/- The engine: texts (as lists of bytes), ranges over them; contracts of functions of plain values. -/
import Derived.Test.YtbegnjhfhnaagaaDoorSxP
import Derived.Laws.RangeAny
import Derived.Laws.Strings3
import Derived.Laws.Unary
import Derived.Laws.Slices
import Derived.Laws.BytesString
namespace Go.Sx
open Go.RowKit

/-- a text -/
abbrev str (l : List UInt8) : D := .val (.string ⟨l.toArray⟩)
abbrev i64 (n : Int) : D := .val (.int .i64 n)
abbrev bl (b : Bool) : D := .val (.bool b)
abbrev u64 (n : Int) : D := .val (.int .u64 n)
theorem str_size (l : List UInt8) : (⟨l.toArray⟩ : ByteArray).size = l.length := by simp [ByteArray.size]

section
variable {P : Program} {η : List Ob} {σ : Sl} {dst : Option Nat} {ty : TypeId} {pos : String} {after : Array Edge} {gd : Option (Nat × Bool)} {t yt : TypeId} {x y z : Operand}
theorem Y_len_l {l : List UInt8} (hx : oval σ x = .d (str l)) (hu : P.underlying t = some .string) : Ylds P η σ ⟨dst, .call ⟨.builtin .len, #[x], #[t]⟩, ty, pos, after, gd⟩ (.d (.val (.int .i64 (l.length : Int)))) := by
  have := Y_len_str (dst := dst) (ty := ty) (pos := pos) (after := after) (gd := gd) (η := η) hx hu
  rwa [str_size] at this
theorem Y_idx_l {l : List UInt8} {k : IntKind} {i : Int} (hx : oval σ x = .d (str l)) (hy : oval σ y = .d (.val (.int k i))) (hu : P.underlying t = some .string) (h0 : 0 ≤ i ∧ i < (l.length : Int)) : Ylds P η σ ⟨dst, .index t x y, ty, pos, after, gd⟩ (.d (.val (.int .u8 ((l.getD i.toNat 0).toNat : Int)))) := by
  refine Ylds.same fun g w a hi h => ⟨_, ?_, .val _⟩
  have h1 := h x (by simp [Op.operands]); rw [hx] at h1
  have h2 := h y (by simp [Op.operands]); rw [hy] at h2
  have hlt : i.toNat < l.length := by omega
  have hc : 0 ≤ i ∧ i < ((⟨l.toArray⟩ : ByteArray).size : Int) := by rw [str_size]; exact h0
  simp only [execOp, RepD.val_eq h1, RepD.val_eq h2, Sem.run_bind, run_index_string w t _ k i hu, dif_pos hc, Result.andThen_ok, Sem.run_pure]
  have : (⟨l.toArray⟩ : ByteArray)[i.toNat]'(by rw [str_size]; exact hlt) = l.getD i.toNat 0 := by
    rw [List.getD_eq_getElem?_getD, List.getElem?_eq_getElem hlt]; rfl
  rw [this]
theorem Y_sub_l {l : List UInt8} {k k' : IntKind} {i j : Int} (hx : oval σ x = .d (str l)) (hy : oval σ y = .d (.val (.int k i))) (hz : oval σ z = .d (.val (.int k' j))) (hu : P.underlying t = some .string) (h0 : 0 ≤ i ∧ i ≤ j ∧ j ≤ (l.length : Int)) : Ylds P η σ ⟨dst, .slice t x (some y) (some z) none, ty, pos, after, gd⟩ (.d (str ((l.drop i.toNat).take (j.toNat - i.toNat)))) := by
  refine Ylds.same fun g w a hi h => ⟨_, ?_, .val _⟩
  have h1 := h x (by simp [Op.operands]); rw [hx] at h1
  have h2 := h y (by simp [Op.operands]); rw [hy] at h2
  have h3 := h z (by simp [Op.operands]); rw [hz] at h3
  simp only [execOp, RepD.val_eq h1, RepD.val_eq h2, RepD.val_eq h3, Option.map_some, Option.map_none, Sem.run_bind, run_sliceAt_string w t _ _ _ _ hu, run_slice_string w t _ k k' i j hu h0.1 h0.2.1 (by rw [str_size]; exact h0.2.2), Result.andThen_ok, Sem.run_pure, ByteArray.extract_mk]
theorem Y_drop_l {l : List UInt8} {k : IntKind} {i : Int} (hx : oval σ x = .d (str l)) (hy : oval σ y = .d (.val (.int k i))) (hu : P.underlying t = some .string) (h0 : 0 ≤ i ∧ i ≤ (l.length : Int)) : Ylds P η σ ⟨dst, .slice t x (some y) none none, ty, pos, after, gd⟩ (.d (str (l.drop i.toNat))) := by
  refine Ylds.same fun g w a hi h => ⟨_, ?_, .val _⟩
  have h1 := h x (by simp [Op.operands]); rw [hx] at h1
  have h2 := h y (by simp [Op.operands]); rw [hy] at h2
  have e : (l.drop i.toNat).take (l.length - i.toNat) = l.drop i.toNat := List.take_of_length_le (by simp)
  simp only [execOp, RepD.val_eq h1, RepD.val_eq h2, Option.map_some, Option.map_none, Sem.run_bind, run_sliceAt_string w t _ _ _ _ hu, run_slice_string_from_if w t _ k i hu, Sem.run_pure, ByteArray.extract_mk, str_size, e]
  rw [if_pos h0]; rfl
theorem Y_eqs {a b : List UInt8} (hx : oval σ x = .d (str a)) (hy : oval σ y = .d (str b)) : Ylds P η σ ⟨dst, .binOp .eql t x y yt, ty, pos, after, gd⟩ (.d (.val (.bool (decide (a = b))))) :=
  Y_bin hx hy fun w => by
    simp only [eqGuard_at_string, binOp_string_eql, Sem.run_bind, Sem.run_pure, Result.andThen_ok, ByteArray.toList_mk]
    by_cases h : a = b <;> simp [h]
theorem Y_neqs {a b : List UInt8} (hx : oval σ x = .d (str a)) (hy : oval σ y = .d (str b)) : Ylds P η σ ⟨dst, .binOp .neq t x y yt, ty, pos, after, gd⟩ (.d (.val (.bool (decide (a ≠ b))))) :=
  Y_bin hx hy fun w => by
    simp only [eqGuard_at_string, binOp_string_neq, Sem.run_bind, Sem.run_pure, Result.andThen_ok, ByteArray.toList_mk]
    by_cases h : a = b <;> simp [h]
theorem Y_cat_l {a b : List UInt8} (hx : oval σ x = .d (str a)) (hy : oval σ y = .d (str b)) (hl : (a.length : Int) + b.length ≤ 9223372036854775807) : Ylds P η σ ⟨dst, .binOp .add t x y yt, ty, pos, after, gd⟩ (.d (str (a ++ b))) := by
  have := Y_cat (P := P) (η := η) (dst := dst) (ty := ty) (pos := pos) (after := after) (gd := gd) (t := t) (yt := yt) hx hy (by rw [str_size, str_size]; exact hl)
  rwa [ByteArray.mk_append_mk] at this
theorem Y_neg {k : IntKind} {n : Int} (hx : oval σ x = .d (.val (.int k n))) : Ylds P η σ ⟨dst, .unOp .neg t x, ty, pos, after, gd⟩ (.d (.val (.int k (k.wrap (0 - n))))) := Y_un hx rfl
theorem foldl_bytes : ∀ (ns : List Int) (r : ByteArray), ns.foldl (fun r n => r.push (UInt8.ofNat n.toNat)) r = ⟨r.data ++ (ns.map fun n => UInt8.ofNat n.toNat).toArray⟩
  | [], r => by simp
  | n :: ns, r => by
    rw [List.foldl_cons, foldl_bytes ns]
    simp [ByteArray.push]
/-- bytes as a text -/
theorem Y_b2s {e src tdst : TypeId} {ns : List Int} (hx : oval σ x = .d (.slice (ns.map fun n => .val (.int .u8 n)))) (hs : P.underlying src = some (.slice e)) (he : P.underlying e = some (.int .u8)) (hd : P.underlying tdst = some .string) (h0 : ns ≠ []) :
    Ylds P η σ ⟨dst, .convert src tdst x, ty, pos, after, gd⟩ (.d (str (ns.map fun n => UInt8.ofNat n.toNat))) := by
  refine Ylds.same fun g w a hi h => ?_
  have h1 := h x (by simp [Op.operands]); rw [hx] at h1
  change RepD _ _ _ _ at h1
  generalize hv : a.eval x = v at h1
  cases h1 with
  | slice ad len cap sz _ us hlen hcap hm hsz hus h1c hcell hr =>
    have hfl : flats (ns.map fun n => D.val (.int .u8 n)) = ns.map fun n => D.val (.int .u8 n) := by
      clear hv hus hr hcell hlen h hx h0 hsz
      induction ns with
      | nil => rfl
      | cons n ns ih => simp only [List.map_cons, flats, List.flatMap_cons, D.flat] at ih ⊢; rw [ih]; rfl
    have hpos : 0 < (ns.map fun n => D.val (.int .u8 n)).length := by
      rw [List.length_map]; cases ns with
      | nil => exact absurd rfl h0
      | cons => simp
    obtain ⟨ad, rfl, hc⟩ := hcell hpos
    have hul : us.length = ns.length := by rw [hus, hfl, List.length_map]
    have eus : us = ns.map (Value.int .u8) := by
      refine List.ext_getElem? fun j => ?_
      rcases Nat.lt_or_ge j ns.length with hj | hj
      · have e1 : us[j]? = some (us[j]'(by omega)) := List.getElem?_eq_getElem (by omega)
        have e2 : (flats (ns.map fun n => D.val (.int .u8 n)))[j]? = some (.val (.int .u8 ns[j])) := by rw [hfl, List.getElem?_map, List.getElem?_eq_getElem hj]; rfl
        rw [e1, RepD.val_eq (hr j _ _ e1 e2), List.getElem?_map, List.getElem?_eq_getElem hj]; rfl
      · rw [List.getElem?_eq_none (by omega), List.getElem?_eq_none (by simp; omega)]
    have hld := run_loadCells_list (P := P) w ad us (fun j v hj => (hc j v hj).2)
    refine ⟨_, ?_, .val _⟩
    have hlen' : len = us.length := by rw [hlen, List.length_map, hul]
    simp only [execOp, hv, Sem.run_bind, run_convert_bytes_string w src tdst e (some ad) len cap hs he hd]
    rw [run_bytesToString w ad len cap ns (by rw [hlen', hld, eus])]
    simp only [Result.andThen_ok, Sem.run_pure, foldl_bytes]
    simp
end

/-! ### a range over a text -/
section
variable {C : Ctx} {σ : Sl} {η : List Ob}
theorem AbsG.setIter {g : Gh} {a : Act} {w : World} (h : AbsG C g σ η a w) {id b : Nat} {s : ByteArray} {p p' : Nat} (hid : η[id]? = some (.iter s p)) (hb : g.blk id = some b) (hro : C.ro ≤ id)
    (hst : ∀ o, ¬ g.St b o) :
    AbsG C g σ (η.set id (.iter s p')) a { w with heap := w.heap.setIfInBounds b (.stringIter s p') } := by
  have hoth : ∀ k, k ≠ b → (w.heap.setIfInBounds b (.stringIter s p'))[k]? = w.heap[k]? := fun k hk => by rw [Array.getElem?_setIfInBounds_ne (fun e => hk e.symm)]
  have hbl := h.inv.lt id b hb
  have kp : Keep g.St w g.St { w with heap := w.heap.setIfInBounds b (.stringIter s p') } := ⟨fun _ _ h => h, fun c o u hc hu => (World.cell?_of_block (a := ⟨c, o, none⟩) (hoth c (fun e => hst o (e ▸ hc)))).trans hu, fun c hc => hoth c (fun e => hst 0 (e ▸ hc 0))⟩
  have rk : ∀ {v : Value} {s' : SV}, RepS g w v s' → RepS g { w with heap := w.heap.setIfInBounds b (.stringIter s p') } v s' := fun r => r.ext kp (fun _ _ => ⟨rfl, rfl, rfl⟩) (Nat.le_refl _)
  have hidl : id < η.length := (List.getElem?_eq_some_iff.1 hid).1
  refine ⟨h.defers, h.size, ⟨by rw [List.length_set]; exact h.inv.n, fun i c hc => by simpa using h.inv.lt i c hc, h.inv.dead, h.inv.inj, fun i o ho => ?_, fun c o hc => by simpa using h.inv.st c o hc, h.inv.gl.keep kp⟩, h.os, h.tape, h.output, by simpa using h.wsize,
    fun k hk hx => ?_, h.keep.trans kp, h.new, h.own, fun t => rk (h.rep t)⟩
  · rw [List.getElem?_set] at ho
    split at ho
    · rename_i hc; subst hc
      try rw [if_pos hidl] at ho
      injection ho with ho; subst ho
      exact ⟨b, hb, by simp [hbl], hst⟩
    · rename_i hc
      refine (h.inv.ob i o ho).ext kp (fun _ _ => ⟨rfl, rfl, rfl⟩) (Nat.le_refl _) (by rw [h.inv.n]; exact (List.getElem?_eq_some_iff.1 ho).1) (fun c hcb => ⟨hoth c (fun e => ?_), fun _ => Iff.rfl⟩)
      subst e
      exact hc (h.inv.inj id i c hb hcb)
  · show (w.heap.setIfInBounds b (.stringIter s p'))[k]? = _
    rw [hoth k (fun e => ?_)]
    · exact h.heap k hk hx
    · subst e
      rcases h.own id k hb hro with h2 | h2
      · omega
      · exact hx h2

theorem absIter {g : Gh} {a : Act} {w : World} {d : Nat} (ha : AbsG C g σ η a w) (s : ByteArray) (hd : Nat.blt d C.N = true) (hro : C.ro ≤ η.length) :
    Abs C ((d, .ptr η.length 0) :: σ) (η ++ [.iter s 0]) (a.put (some d) (.pointer (some ⟨w.heap.size, 0, none⟩))) (w.alloc (.stringIter s 0)) := by
  have hn := ha.inv.n
  let g' : Gh := { g with blk := upd g.blk g.n (some w.heap.size), n := g.n + 1 }
  have hold : ∀ id, id < g.n → g'.blk id = g.blk id ∧ g'.cap id = g.cap id ∧ g'.sz id = g.sz id := fun id hid => ⟨by simp [g', upd, Nat.ne_of_lt hid], rfl, rfl⟩
  have hbn : g'.blk g.n = some w.heap.size := by simp [g', upd]
  have hab := ha.newOb (g' := g') (w' := w.alloc (.stringIter s 0)) (.iter s 0) rfl rfl rfl (by simp) (fun k hk => Below.heap_alloc w _ k hk) rfl hold
    (fun id hid => by
      have hne : id ≠ g.n := by omega
      simp only [g', upd, if_neg hne]
      exact ha.inv.dead id (by omega)) (fun b hb => by rw [hbn] at hb; injection hb with hb; subst hb; simp) (fun _ _ h => h) (fun _ _ h => .inl h) (fun b o hb => Nat.lt_of_lt_of_le (ha.inv.st b o hb) (by simp)) (by rw [hn]; exact hro)
    ⟨w.heap.size, hbn, _root_.Go.World.iter_heap w s 0, fun o ho => absurd (ha.inv.st _ o ho) (by omega)⟩
  exact ⟨g', hab.put (d := some d) hd ⟨by show η.length < g.n + 1; omega, w.heap.size, by rw [← hn]; exact hbn, rfl⟩⟩
end

section
variable {C : Ctx} {ops : Array Oper} {rest : List Oper} {K : Sl → List Ob → Prop} {σ : Sl} {η : List Ob} {d : Nat} {ty : TypeId} {pos : String} {after : Array Edge} {gd : Option (Nat × Bool)} {t : TypeId} {x : Operand}
theorem aRange {s : ByteArray} (hx : oval σ x = .d (.val (.string s))) (hu : C.P.underlying t = some .string) (hd : Nat.blt d C.N = true) (hro : Nat.ble C.ro η.length = true)
    (h : alex C false ops rest K ((d, .ptr η.length 0) :: σ) (η ++ [.iter s 0])) : astep C false ops ⟨some d, .range t x, ty, pos, after, gd⟩ rest K σ η := by
  refine estep (fun g a w ha => ?_) h
  have hr := ha.eval x
  rw [hx] at hr
  refine ⟨_, _, ?_, absIter ha s hd (Nat.le_of_ble_eq_true hro)⟩
  simp only [execOp, RepD.val_eq hr, Sem.run_bind, run_range_string w t s hu, Result.andThen_ok, Sem.run_pure]
  rfl

/-- the next rune, or none -/
theorem aNext {id p : Nat} {s : ByteArray} (hx : oval σ x = .ptr id 0) (ho : η[id]? = some (.iter s p)) (hd : Nat.blt d C.N = true) (hro : Nat.ble C.ro id = true)
    (h1 : p < s.size → alex C false ops rest K ((d, .d (.tup [.val (.bool true), .val (.int .i64 (p : Int)), .val (.int .i32 ((Utf8.decode s p).1 : Int))])) :: σ) (η.set id (.iter s (p + (Utf8.decode s p).2))))
    (h2 : ¬ p < s.size → alex C false ops rest K ((d, .d (.tup [.val (.bool false)])) :: σ) η) : astep C false ops ⟨some d, .next x true, ty, pos, after, gd⟩ rest K σ η := by
  by_cases hc : p < s.size
  · refine estep (fun g a w ha => ?_) (h1 hc)
    have hr := ha.eval x
    rw [hx] at hr
    obtain ⟨hidn, b, hb, hv⟩ := hr
    obtain ⟨b', hb', hh, hst⟩ := ha.inv.ob id _ ho
    rw [hb] at hb'; injection hb' with hb'; subst hb'
    have hbl := ha.inv.lt id b hb
    have hh' : w.heap[b]'hbl = .stringIter s p := by
      have := Array.getElem?_eq_getElem hbl; rw [hh] at this; injection this with this; exact this.symm
    refine ⟨.tuple #[.bool true, .int .i64 (p : Int), .int .i32 ((Utf8.decode s p).1 : Int)], _, ?_, g, (ha.setIter (p' := p + (Utf8.decode s p).2) ho hb (Nat.le_of_ble_eq_true hro) hst).put (d := some d) hd ?_⟩
    · simp only [execOp, hv, Instr.next, getObj, setObj, Sem.run_bind, Sem.run, hh, Result.andThen, hc, if_true]
      simp [goInt]
    · refine .tup [_, _, _] _ rfl fun j u d' hu hd' => ?_
      match j with
      | 0 => simp at hu hd'; subst hu; subst hd'; exact .val _
      | 1 => simp at hu hd'; subst hu; subst hd'; exact .val _
      | 2 => simp at hu hd'; subst hu; subst hd'; exact .val _
      | j + 3 => simp at hu
  · refine estep (fun g a w ha => ?_) (h2 hc)
    have hr := ha.eval x
    rw [hx] at hr
    obtain ⟨hidn, b, hb, hv⟩ := hr
    obtain ⟨b', hb', hh, hst⟩ := ha.inv.ob id _ ho
    rw [hb] at hb'; injection hb' with hb'; subst hb'
    refine ⟨.tuple #[.bool false], w, ?_, g, ha.put (d := some d) hd ?_⟩
    · simp [execOp, hv, Instr.next, getObj, Sem.run, hh, hc]
    · refine .tup [_] _ rfl fun j u d' hu hd' => ?_
      match j with
      | 0 => simp at hu hd'; subst hu; subst hd'; exact .val _
      | j + 1 => simp at hu
end

/-! ### contracts of functions of plain values -/
theorem RepDs.vals {St : Stab} {w : World} : ∀ {vs us : List Value}, RepDs St w vs (us.map .val) → vs = us
  | [], [], _ => rfl
  | v :: vs, u :: us, h => by rw [RepD.val_eq h.1, RepDs.vals h.2]
  | [], _ :: _, h => h.elim
  | _ :: _, [], h => h.elim

theorem pcall_plain {P : Program} {f : FuncId} {us : List Value} {r : Value} {d : D} (hd : ∀ St w, RepD St w r d)
    (h : ∀ St w, Glob St w → Calls P f us.toArray w (fun e w' => e = .returned r ∧ Below w.heap.size w w')) : PCall P f (us.map .val) d := by
  intro St w vs hst hgl hr
  rw [RepDs.vals hr]
  refine (h St w hgl).mono fun e w' ⟨he, hb⟩ => ⟨r, St, he, hd St w', hb, ⟨fun _ _ h => h, fun b o u hc hu => (World.cell?_of_block (a := ⟨b, o, none⟩) (hb.block b (hst b o hc))).trans hu, fun b hc => hb.block b (hst b 0 (hc 0))⟩, fun b o h => .inl h, fun b o h => Nat.lt_of_lt_of_le (hst b o h) hb.size⟩
end Go.Sx
