/- Texts of this claim, merged: SxQ, SxR, SxS, SxT, SxFl, SxU, SxV, SxW, SxX, SxY, SxZ, SxAA. -/
import Derived.Laws.RangeAny
import Derived.Laws.Strings3
import Derived.Laws.Unary
import Derived.Laws.Slices
import Derived.Laws.BytesString
import Ieee.Arith
import Derived.Lib.AppendStr
import Derived.Lib.UnsafeStr
import Derived.Laws.FloatArith
import Derived.Lib.Builder
import Derived.Laws.Pointers
import Derived.Laws.Externs
import Derived.Laws.Sem
import Derived.Test.YtbgomheagkcmaaaDoorMA
/- The engine: texts (as lists of bytes), ranges over them; contracts of functions of plain values. -/
namespace Go.Sx
open Go.RowKit

/-- a text -/
abbrev str (l : List UInt8) : D := .val (.string ⟨l.toArray⟩)
abbrev i64 (n : Int) : D := .val (.int .i64 n)
abbrev bl (b : Bool) : D := .val (.bool b)
abbrev u64 (n : Int) : D := .val (.int .u64 n)
theorem str_size (l : List UInt8) : (⟨l.toArray⟩ : ByteArray).size = l.length := by simp [ByteArray.size]

section
variable {P : Program} {η : List Ob} {σ : Sl} {dst : Option Nat} {ty : TypeId} {pos : String} {after : Array Edge} {gd : Option (Nat × Bool)} {t yt : TypeId} {x y z : Operand}
theorem Y_len_l {l : List UInt8} (hx : oval σ x = .d (str l)) (hu : P.underlying t = some .string) : Ylds P η σ ⟨dst, .call ⟨.builtin .len, #[x], #[t]⟩, ty, pos, after, gd⟩ (.d (.val (.int .i64 (l.length : Int)))) := by
  have := Y_len_str (dst := dst) (ty := ty) (pos := pos) (after := after) (gd := gd) (η := η) hx hu
  rwa [str_size] at this
theorem Y_idx_l {l : List UInt8} {k : IntKind} {i : Int} (hx : oval σ x = .d (str l)) (hy : oval σ y = .d (.val (.int k i))) (hu : P.underlying t = some .string) (h0 : 0 ≤ i ∧ i < (l.length : Int)) : Ylds P η σ ⟨dst, .index t x y, ty, pos, after, gd⟩ (.d (.val (.int .u8 ((l.getD i.toNat 0).toNat : Int)))) := by
  refine Ylds.same fun g w a hi h => ⟨_, ?_, .val _⟩
  have h1 := h x (by simp [Op.operands]); rw [hx] at h1
  have h2 := h y (by simp [Op.operands]); rw [hy] at h2
  have hlt : i.toNat < l.length := by omega
  have hc : 0 ≤ i ∧ i < ((⟨l.toArray⟩ : ByteArray).size : Int) := by rw [str_size]; exact h0
  simp only [execOp, RepD.val_eq h1, RepD.val_eq h2, Sem.run_bind, run_index_string w t _ k i hu, dif_pos hc, Result.andThen_ok, Sem.run_pure]
  have : (⟨l.toArray⟩ : ByteArray)[i.toNat]'(by rw [str_size]; exact hlt) = l.getD i.toNat 0 := by
    rw [List.getD_eq_getElem?_getD, List.getElem?_eq_getElem hlt]; rfl
  rw [this]
theorem Y_sub_l {l : List UInt8} {k k' : IntKind} {i j : Int} (hx : oval σ x = .d (str l)) (hy : oval σ y = .d (.val (.int k i))) (hz : oval σ z = .d (.val (.int k' j))) (hu : P.underlying t = some .string) (h0 : 0 ≤ i ∧ i ≤ j ∧ j ≤ (l.length : Int)) : Ylds P η σ ⟨dst, .slice t x (some y) (some z) none, ty, pos, after, gd⟩ (.d (str ((l.drop i.toNat).take (j.toNat - i.toNat)))) := by
  refine Ylds.same fun g w a hi h => ⟨_, ?_, .val _⟩
  have h1 := h x (by simp [Op.operands]); rw [hx] at h1
  have h2 := h y (by simp [Op.operands]); rw [hy] at h2
  have h3 := h z (by simp [Op.operands]); rw [hz] at h3
  simp only [execOp, RepD.val_eq h1, RepD.val_eq h2, RepD.val_eq h3, Option.map_some, Option.map_none, Sem.run_bind, run_sliceAt_string w t _ _ _ _ hu, run_slice_string w t _ k k' i j hu h0.1 h0.2.1 (by rw [str_size]; exact h0.2.2), Result.andThen_ok, Sem.run_pure, ByteArray.extract_mk]
theorem Y_drop_l {l : List UInt8} {k : IntKind} {i : Int} (hx : oval σ x = .d (str l)) (hy : oval σ y = .d (.val (.int k i))) (hu : P.underlying t = some .string) (h0 : 0 ≤ i ∧ i ≤ (l.length : Int)) : Ylds P η σ ⟨dst, .slice t x (some y) none none, ty, pos, after, gd⟩ (.d (str (l.drop i.toNat))) := by
  refine Ylds.same fun g w a hi h => ⟨_, ?_, .val _⟩
  have h1 := h x (by simp [Op.operands]); rw [hx] at h1
  have h2 := h y (by simp [Op.operands]); rw [hy] at h2
  have e : (l.drop i.toNat).take (l.length - i.toNat) = l.drop i.toNat := List.take_of_length_le (by simp)
  simp only [execOp, RepD.val_eq h1, RepD.val_eq h2, Option.map_some, Option.map_none, Sem.run_bind, run_sliceAt_string w t _ _ _ _ hu, run_slice_string_from_if w t _ k i hu, Sem.run_pure, ByteArray.extract_mk, str_size, e]
  rw [if_pos h0]; rfl
theorem Y_eqs {a b : List UInt8} (hx : oval σ x = .d (str a)) (hy : oval σ y = .d (str b)) : Ylds P η σ ⟨dst, .binOp .eql t x y yt, ty, pos, after, gd⟩ (.d (.val (.bool (decide (a = b))))) :=
  Y_bin hx hy fun w => by
    simp only [eqGuard_at_string, binOp_string_eql, Sem.run_bind, Sem.run_pure, Result.andThen_ok, ByteArray.toList_mk]
    by_cases h : a = b <;> simp [h]
theorem Y_neqs {a b : List UInt8} (hx : oval σ x = .d (str a)) (hy : oval σ y = .d (str b)) : Ylds P η σ ⟨dst, .binOp .neq t x y yt, ty, pos, after, gd⟩ (.d (.val (.bool (decide (a ≠ b))))) :=
  Y_bin hx hy fun w => by
    simp only [eqGuard_at_string, binOp_string_neq, Sem.run_bind, Sem.run_pure, Result.andThen_ok, ByteArray.toList_mk]
    by_cases h : a = b <;> simp [h]
theorem Y_cat_l {a b : List UInt8} (hx : oval σ x = .d (str a)) (hy : oval σ y = .d (str b)) (hl : (a.length : Int) + b.length ≤ 9223372036854775807) : Ylds P η σ ⟨dst, .binOp .add t x y yt, ty, pos, after, gd⟩ (.d (str (a ++ b))) := by
  have := Y_cat (P := P) (η := η) (dst := dst) (ty := ty) (pos := pos) (after := after) (gd := gd) (t := t) (yt := yt) hx hy (by rw [str_size, str_size]; exact hl)
  rwa [ByteArray.mk_append_mk] at this
theorem Y_neg {k : IntKind} {n : Int} (hx : oval σ x = .d (.val (.int k n))) : Ylds P η σ ⟨dst, .unOp .neg t x, ty, pos, after, gd⟩ (.d (.val (.int k (k.wrap (0 - n))))) := Y_un hx rfl
theorem foldl_bytes : ∀ (ns : List Int) (r : ByteArray), ns.foldl (fun r n => r.push (UInt8.ofNat n.toNat)) r = ⟨r.data ++ (ns.map fun n => UInt8.ofNat n.toNat).toArray⟩
  | [], r => by simp
  | n :: ns, r => by
    rw [List.foldl_cons, foldl_bytes ns]
    simp [ByteArray.push]
/-- bytes as a text -/
theorem Y_b2s {e src tdst : TypeId} {ns : List Int} (hx : oval σ x = .d (.slice (ns.map fun n => .val (.int .u8 n)))) (hs : P.underlying src = some (.slice e)) (he : P.underlying e = some (.int .u8)) (hd : P.underlying tdst = some .string) (h0 : ns ≠ []) :
    Ylds P η σ ⟨dst, .convert src tdst x, ty, pos, after, gd⟩ (.d (str (ns.map fun n => UInt8.ofNat n.toNat))) := by
  refine Ylds.same fun g w a hi h => ?_
  have h1 := h x (by simp [Op.operands]); rw [hx] at h1
  change RepD _ _ _ _ at h1
  generalize hv : a.eval x = v at h1
  cases h1 with
  | slice ad len cap sz _ us hlen hcap hm hsz hus h1c hcell hr =>
    have hfl : flats (ns.map fun n => D.val (.int .u8 n)) = ns.map fun n => D.val (.int .u8 n) := by
      clear hv hus hr hcell hlen h hx h0 hsz
      induction ns with
      | nil => rfl
      | cons n ns ih => simp only [List.map_cons, flats, List.flatMap_cons, D.flat] at ih ⊢; rw [ih]; rfl
    have hpos : 0 < (ns.map fun n => D.val (.int .u8 n)).length := by
      rw [List.length_map]; cases ns with
      | nil => exact absurd rfl h0
      | cons => simp
    obtain ⟨ad, rfl, hc⟩ := hcell hpos
    have hul : us.length = ns.length := by rw [hus, hfl, List.length_map]
    have eus : us = ns.map (Value.int .u8) := by
      refine List.ext_getElem? fun j => ?_
      rcases Nat.lt_or_ge j ns.length with hj | hj
      · have e1 : us[j]? = some (us[j]'(by omega)) := List.getElem?_eq_getElem (by omega)
        have e2 : (flats (ns.map fun n => D.val (.int .u8 n)))[j]? = some (.val (.int .u8 ns[j])) := by rw [hfl, List.getElem?_map, List.getElem?_eq_getElem hj]; rfl
        rw [e1, RepD.val_eq (hr j _ _ e1 e2), List.getElem?_map, List.getElem?_eq_getElem hj]; rfl
      · rw [List.getElem?_eq_none (by omega), List.getElem?_eq_none (by simp; omega)]
    have hld := run_loadCells_list (P := P) w ad us (fun j v hj => (hc j v hj).2)
    refine ⟨_, ?_, .val _⟩
    have hlen' : len = us.length := by rw [hlen, List.length_map, hul]
    simp only [execOp, hv, Sem.run_bind, run_convert_bytes_string w src tdst e (some ad) len cap hs he hd]
    rw [run_bytesToString w ad len cap ns (by rw [hlen', hld, eus])]
    simp only [Result.andThen_ok, Sem.run_pure, foldl_bytes]
    simp
end

/-! ### a range over a text -/
section
variable {C : Ctx} {σ : Sl} {η : List Ob}
theorem AbsG.setIter {g : Gh} {a : Act} {w : World} (h : AbsG C g σ η a w) {id b : Nat} {s : ByteArray} {p p' : Nat} (hid : η[id]? = some (.iter s p)) (hb : g.blk id = some b) (hro : C.ro ≤ id)
    (hst : ∀ o, ¬ g.St b o) :
    AbsG C g σ (η.set id (.iter s p')) a { w with heap := w.heap.setIfInBounds b (.stringIter s p') } := by
  have hoth : ∀ k, k ≠ b → (w.heap.setIfInBounds b (.stringIter s p'))[k]? = w.heap[k]? := fun k hk => by rw [Array.getElem?_setIfInBounds_ne (fun e => hk e.symm)]
  have hbl := h.inv.lt id b hb
  have kp : Keep g.St w g.St { w with heap := w.heap.setIfInBounds b (.stringIter s p') } := ⟨fun _ _ h => h, fun c o u hc hu => (World.cell?_of_block (a := ⟨c, o, none⟩) (hoth c (fun e => hst o (e ▸ hc)))).trans hu, fun c hc => hoth c (fun e => hst 0 (e ▸ hc 0))⟩
  have rk : ∀ {v : Value} {s' : SV}, RepS g w v s' → RepS g { w with heap := w.heap.setIfInBounds b (.stringIter s p') } v s' := fun r => r.ext kp (fun _ _ => ⟨rfl, rfl, rfl⟩) (Nat.le_refl _)
  have hidl : id < η.length := (List.getElem?_eq_some_iff.1 hid).1
  refine ⟨h.defers, h.size, ⟨by rw [List.length_set]; exact h.inv.n, fun i c hc => by simpa using h.inv.lt i c hc, h.inv.dead, h.inv.inj, fun i o ho => ?_, fun c o hc => by simpa using h.inv.st c o hc, h.inv.gl.keep kp⟩, h.os, h.tape, h.output, by simpa using h.wsize,
    fun k hk hx => ?_, h.keep.trans kp, h.new, h.own, fun t => rk (h.rep t)⟩
  · rw [List.getElem?_set] at ho
    split at ho
    · rename_i hc; subst hc
      try rw [if_pos hidl] at ho
      injection ho with ho; subst ho
      exact ⟨b, hb, by simp [hbl], hst⟩
    · rename_i hc
      refine (h.inv.ob i o ho).ext kp (fun _ _ => ⟨rfl, rfl, rfl⟩) (Nat.le_refl _) (by rw [h.inv.n]; exact (List.getElem?_eq_some_iff.1 ho).1) (fun c hcb => ⟨hoth c (fun e => ?_), fun _ => Iff.rfl⟩)
      subst e
      exact hc (h.inv.inj id i c hb hcb)
  · show (w.heap.setIfInBounds b (.stringIter s p'))[k]? = _
    rw [hoth k (fun e => ?_)]
    · exact h.heap k hk hx
    · subst e
      rcases h.own id k hb hro with h2 | h2
      · omega
      · exact hx h2

theorem absIter {g : Gh} {a : Act} {w : World} {d : Nat} (ha : AbsG C g σ η a w) (s : ByteArray) (hd : Nat.blt d C.N = true) (hro : C.ro ≤ η.length) :
    Abs C ((d, .ptr η.length 0) :: σ) (η ++ [.iter s 0]) (a.put (some d) (.pointer (some ⟨w.heap.size, 0, none⟩))) (w.alloc (.stringIter s 0)) := by
  have hn := ha.inv.n
  let g' : Gh := { g with blk := upd g.blk g.n (some w.heap.size), n := g.n + 1 }
  have hold : ∀ id, id < g.n → g'.blk id = g.blk id ∧ g'.cap id = g.cap id ∧ g'.sz id = g.sz id := fun id hid => ⟨by simp [g', upd, Nat.ne_of_lt hid], rfl, rfl⟩
  have hbn : g'.blk g.n = some w.heap.size := by simp [g', upd]
  have hab := ha.newOb (g' := g') (w' := w.alloc (.stringIter s 0)) (.iter s 0) rfl rfl rfl (by simp) (fun k hk => Below.heap_alloc w _ k hk) rfl hold
    (fun id hid => by
      have hne : id ≠ g.n := by omega
      simp only [g', upd, if_neg hne]
      exact ha.inv.dead id (by omega)) (fun b hb => by rw [hbn] at hb; injection hb with hb; subst hb; simp) (fun _ _ h => h) (fun _ _ h => .inl h) (fun b o hb => Nat.lt_of_lt_of_le (ha.inv.st b o hb) (by simp)) (by rw [hn]; exact hro)
    ⟨w.heap.size, hbn, _root_.Go.World.iter_heap w s 0, fun o ho => absurd (ha.inv.st _ o ho) (by omega)⟩
  exact ⟨g', hab.put (d := some d) hd ⟨by show η.length < g.n + 1; omega, w.heap.size, by rw [← hn]; exact hbn, rfl⟩⟩
end

section
variable {C : Ctx} {ops : Array Oper} {rest : List Oper} {K : Sl → List Ob → Prop} {σ : Sl} {η : List Ob} {d : Nat} {ty : TypeId} {pos : String} {after : Array Edge} {gd : Option (Nat × Bool)} {t : TypeId} {x : Operand}
theorem aRange {s : ByteArray} (hx : oval σ x = .d (.val (.string s))) (hu : C.P.underlying t = some .string) (hd : Nat.blt d C.N = true) (hro : Nat.ble C.ro η.length = true)
    (h : alex C false ops rest K ((d, .ptr η.length 0) :: σ) (η ++ [.iter s 0])) : astep C false ops ⟨some d, .range t x, ty, pos, after, gd⟩ rest K σ η := by
  refine estep (fun g a w ha => ?_) h
  have hr := ha.eval x
  rw [hx] at hr
  refine ⟨_, _, ?_, absIter ha s hd (Nat.le_of_ble_eq_true hro)⟩
  simp only [execOp, RepD.val_eq hr, Sem.run_bind, run_range_string w t s hu, Result.andThen_ok, Sem.run_pure]
  rfl

/-- the next rune, or none -/
theorem aNext {id p : Nat} {s : ByteArray} (hx : oval σ x = .ptr id 0) (ho : η[id]? = some (.iter s p)) (hd : Nat.blt d C.N = true) (hro : Nat.ble C.ro id = true)
    (h1 : p < s.size → alex C false ops rest K ((d, .d (.tup [.val (.bool true), .val (.int .i64 (p : Int)), .val (.int .i32 ((Utf8.decode s p).1 : Int))])) :: σ) (η.set id (.iter s (p + (Utf8.decode s p).2))))
    (h2 : ¬ p < s.size → alex C false ops rest K ((d, .d (.tup [.val (.bool false)])) :: σ) η) : astep C false ops ⟨some d, .next x true, ty, pos, after, gd⟩ rest K σ η := by
  by_cases hc : p < s.size
  · refine estep (fun g a w ha => ?_) (h1 hc)
    have hr := ha.eval x
    rw [hx] at hr
    obtain ⟨hidn, b, hb, hv⟩ := hr
    obtain ⟨b', hb', hh, hst⟩ := ha.inv.ob id _ ho
    rw [hb] at hb'; injection hb' with hb'; subst hb'
    have hbl := ha.inv.lt id b hb
    have hh' : w.heap[b]'hbl = .stringIter s p := by
      have := Array.getElem?_eq_getElem hbl; rw [hh] at this; injection this with this; exact this.symm
    refine ⟨.tuple #[.bool true, .int .i64 (p : Int), .int .i32 ((Utf8.decode s p).1 : Int)], _, ?_, g, (ha.setIter (p' := p + (Utf8.decode s p).2) ho hb (Nat.le_of_ble_eq_true hro) hst).put (d := some d) hd ?_⟩
    · simp only [execOp, hv, Instr.next, getObj, setObj, Sem.run_bind, Sem.run, hh, Result.andThen, hc, if_true]
      simp [goInt]
    · refine .tup [_, _, _] _ rfl fun j u d' hu hd' => ?_
      match j with
      | 0 => simp at hu hd'; subst hu; subst hd'; exact .val _
      | 1 => simp at hu hd'; subst hu; subst hd'; exact .val _
      | 2 => simp at hu hd'; subst hu; subst hd'; exact .val _
      | j + 3 => simp at hu
  · refine estep (fun g a w ha => ?_) (h2 hc)
    have hr := ha.eval x
    rw [hx] at hr
    obtain ⟨hidn, b, hb, hv⟩ := hr
    obtain ⟨b', hb', hh, hst⟩ := ha.inv.ob id _ ho
    rw [hb] at hb'; injection hb' with hb'; subst hb'
    refine ⟨.tuple #[.bool false], w, ?_, g, ha.put (d := some d) hd ?_⟩
    · simp [execOp, hv, Instr.next, getObj, Sem.run, hh, hc]
    · refine .tup [_] _ rfl fun j u d' hu hd' => ?_
      match j with
      | 0 => simp at hu hd'; subst hu; subst hd'; exact .val _
      | j + 1 => simp at hu
end

/-! ### contracts of functions of plain values -/
theorem RepDs.vals {St : Stab} {w : World} : ∀ {vs us : List Value}, RepDs St w vs (us.map .val) → vs = us
  | [], [], _ => rfl
  | v :: vs, u :: us, h => by rw [RepD.val_eq h.1, RepDs.vals h.2]
  | [], _ :: _, h => h.elim
  | _ :: _, [], h => h.elim

theorem pcall_plain {P : Program} {f : FuncId} {us : List Value} {r : Value} {d : D} (hd : ∀ St w, RepD St w r d)
    (h : ∀ St w, Glob St w → Calls P f us.toArray w (fun e w' => e = .returned r ∧ Below w.heap.size w w')) : PCall P f (us.map .val) d := by
  intro St w vs hst hgl hr
  rw [RepDs.vals hr]
  refine (h St w hgl).mono fun e w' ⟨he, hb⟩ => ⟨r, St, he, hd St w', hb, ⟨fun _ _ h => h, fun b o u hc hu => (World.cell?_of_block (a := ⟨b, o, none⟩) (hb.block b (hst b o hc))).trans hu, fun b hc => hb.block b (hst b 0 (hc 0))⟩, fun b o h => .inl h, fun b o h => Nat.lt_of_lt_of_le (hst b o h) hb.size⟩
end Go.Sx
/- The engine: comparisons whose answer is known: no way is split. -/
namespace Go.Sx
section
variable {P : Program} {η : List Ob} {σ : Sl} {dst : Option Nat} {ty : TypeId} {pos : String} {after : Array Edge} {gd : Option (Nat × Bool)} {t yt : TypeId} {x y : Operand} {k : IntKind} {m n : Int}
theorem Y_as {o : Oper} {b c : Bool} (h : Ylds P η σ o (.d (.val (.bool b)))) (e : b = c) : Ylds P η σ o (.d (.val (.bool c))) := by subst e; exact h
theorem Y_lssT (hx : oval σ x = .d (.val (.int k m))) (hy : oval σ y = .d (.val (.int k n))) (h : m < n) : Ylds P η σ ⟨dst, .binOp .lss t x y yt, ty, pos, after, gd⟩ (.d (.val (.bool true))) := Y_as (Y_lss hx hy) (decide_eq_true h)
theorem Y_lssF (hx : oval σ x = .d (.val (.int k m))) (hy : oval σ y = .d (.val (.int k n))) (h : ¬ m < n) : Ylds P η σ ⟨dst, .binOp .lss t x y yt, ty, pos, after, gd⟩ (.d (.val (.bool false))) := Y_as (Y_lss hx hy) (decide_eq_false h)
theorem Y_leqT (hx : oval σ x = .d (.val (.int k m))) (hy : oval σ y = .d (.val (.int k n))) (h : m ≤ n) : Ylds P η σ ⟨dst, .binOp .leq t x y yt, ty, pos, after, gd⟩ (.d (.val (.bool true))) := Y_as (Y_leq hx hy) (decide_eq_true h)
theorem Y_leqF (hx : oval σ x = .d (.val (.int k m))) (hy : oval σ y = .d (.val (.int k n))) (h : ¬ m ≤ n) : Ylds P η σ ⟨dst, .binOp .leq t x y yt, ty, pos, after, gd⟩ (.d (.val (.bool false))) := Y_as (Y_leq hx hy) (decide_eq_false h)
theorem Y_gtrT (hx : oval σ x = .d (.val (.int k m))) (hy : oval σ y = .d (.val (.int k n))) (h : m > n) : Ylds P η σ ⟨dst, .binOp .gtr t x y yt, ty, pos, after, gd⟩ (.d (.val (.bool true))) := Y_as (Y_gtr hx hy) (decide_eq_true h)
theorem Y_gtrF (hx : oval σ x = .d (.val (.int k m))) (hy : oval σ y = .d (.val (.int k n))) (h : ¬ m > n) : Ylds P η σ ⟨dst, .binOp .gtr t x y yt, ty, pos, after, gd⟩ (.d (.val (.bool false))) := Y_as (Y_gtr hx hy) (decide_eq_false h)
theorem Y_geqT (hx : oval σ x = .d (.val (.int k m))) (hy : oval σ y = .d (.val (.int k n))) (h : m ≥ n) : Ylds P η σ ⟨dst, .binOp .geq t x y yt, ty, pos, after, gd⟩ (.d (.val (.bool true))) := Y_as (Y_geq hx hy) (decide_eq_true h)
theorem Y_geqF (hx : oval σ x = .d (.val (.int k m))) (hy : oval σ y = .d (.val (.int k n))) (h : ¬ m ≥ n) : Ylds P η σ ⟨dst, .binOp .geq t x y yt, ty, pos, after, gd⟩ (.d (.val (.bool false))) := Y_as (Y_geq hx hy) (decide_eq_false h)
theorem Y_eqlT (hx : oval σ x = .d (.val (.int k m))) (hy : oval σ y = .d (.val (.int k n))) (h : m = n) : Ylds P η σ ⟨dst, .binOp .eql t x y yt, ty, pos, after, gd⟩ (.d (.val (.bool true))) := Y_as (Y_eql hx hy) (decide_eq_true h)
theorem Y_eqlF (hx : oval σ x = .d (.val (.int k m))) (hy : oval σ y = .d (.val (.int k n))) (h : ¬ m = n) : Ylds P η σ ⟨dst, .binOp .eql t x y yt, ty, pos, after, gd⟩ (.d (.val (.bool false))) := Y_as (Y_eql hx hy) (decide_eq_false h)
theorem Y_neqT (hx : oval σ x = .d (.val (.int k m))) (hy : oval σ y = .d (.val (.int k n))) (h : m ≠ n) : Ylds P η σ ⟨dst, .binOp .neq t x y yt, ty, pos, after, gd⟩ (.d (.val (.bool true))) := Y_as (Y_neq hx hy) (decide_eq_true h)
theorem Y_neqF (hx : oval σ x = .d (.val (.int k m))) (hy : oval σ y = .d (.val (.int k n))) (h : ¬ m ≠ n) : Ylds P η σ ⟨dst, .binOp .neq t x y yt, ty, pos, after, gd⟩ (.d (.val (.bool false))) := Y_as (Y_neq hx hy) (decide_eq_false h)
theorem Y_eqbT {a b : Bool} (hx : oval σ x = .d (.val (.bool a))) (hy : oval σ y = .d (.val (.bool b))) (hu : P.underlying t = some .bool) (h : a = b) : Ylds P η σ ⟨dst, .binOp .eql t x y yt, ty, pos, after, gd⟩ (.d (.val (.bool true))) := Y_as (Y_eqlb hx hy hu) (by rw [h]; exact beq_self_eq_true _)
theorem Y_strT {a b : List UInt8} (hx : oval σ x = .d (str a)) (hy : oval σ y = .d (str b)) (h : a = b) : Ylds P η σ ⟨dst, .binOp .eql t x y yt, ty, pos, after, gd⟩ (.d (.val (.bool true))) := Y_as (Y_eqs hx hy) (decide_eq_true h)
end

/-! ### a guard that hangs on what was skipped -/
section
variable {C : Ctx} {ops : Array Oper} {rest : List Oper} {K : Sl → List Ob → Prop} {σ : Sl} {η : List Ob} {d : Nat} {op : Op} {ty : TypeId} {pos : String} {after : Array Edge} {j t : Nat} {want : Bool}
theorem alex_unwanted {gd : Option (Nat × Bool)} (hw : ∀ g a w, AbsG C g σ η a w → Region.wanted (⟨some d, op, ty, pos, after, gd⟩ : Oper) (yielded ops a.tmps) = false) (hd : Nat.blt d C.N = true) (h : alex C false ops rest K ((d, .d (.val undef)) :: σ) η) :
    alex C false ops (⟨some d, op, ty, pos, after, gd⟩ :: rest) K σ η := by
  intro Q hQ a w ⟨g, ha⟩
  refine wpList_step fun K' hK' => ?_
  rw [if_neg (by rw [hw g a w ha]; simp)]
  exact hK' _ _ (h Q hQ _ w ⟨g, ha.put (d := some d) hd (.val undef)⟩)
theorem kU (h1 : (ops[j]?).bind (·.dst) = some t) (h2 : get σ t = .d (.val undef)) (hd : Nat.blt d C.N = true) (h : alex C false ops rest K ((d, .d (.val undef)) :: σ) η) :
    alex C false ops (⟨some d, op, ty, pos, after, some (j, want)⟩ :: rest) K σ η := by
  refine alex_unwanted (fun g a w ha => ?_) hd h
  have hv := ha.rep t
  rw [h2] at hv
  have hv := RepD.val_eq hv
  unfold Region.wanted
  have : yielded ops a.tmps j = none := by
    simp only [yielded, h1, Option.bind_some]
    rcases Nat.lt_or_ge t a.tmps.size with hl | hl
    · rw [Array.getD_eq_getD_getElem?, Array.getElem?_eq_getElem hl] at hv
      rw [Array.getElem?_eq_getElem hl]
      simp only [Option.getD_some] at hv
      rw [hv]; rfl
    · rw [Array.getElem?_eq_none hl]
  simp only [this]; rfl
theorem k1u (h1 : (ops[j]?).bind (·.dst) = some t) (h2 : get σ t = .d (.val (.bool false))) (hd : Nat.blt d C.N = true) (h : alex C false ops rest K ((d, .d (.val undef)) :: σ) η) :
    alex C false ops (⟨some d, op, ty, pos, after, some (j, true)⟩ :: rest) K σ η :=
  alex_unwanted (fun g a w ha => (show Wants ops σ (some (j, true)) false from ⟨t, h1, by simpa using h2⟩).wanted (o := ⟨some d, op, ty, pos, after, some (j, true)⟩) (fun t _ _ _ _ => ha.rep t)) hd h
theorem k0u (h1 : (ops[j]?).bind (·.dst) = some t) (h2 : get σ t = .d (.val (.bool true))) (hd : Nat.blt d C.N = true) (h : alex C false ops rest K ((d, .d (.val undef)) :: σ) η) :
    alex C false ops (⟨some d, op, ty, pos, after, some (j, false)⟩ :: rest) K σ η :=
  alex_unwanted (fun g a w ha => (show Wants ops σ (some (j, false)) false from ⟨t, h1, by simpa using h2⟩).wanted (o := ⟨some d, op, ty, pos, after, some (j, false)⟩) (fun t _ _ _ _ => ha.rep t)) hd h
end
section
variable {C : Ctx} {ops : Array Oper} {rest : List Oper} {K : Sl → List Ob → Prop} {σ : Sl} {η : List Ob} {d : Nat} {ty : TypeId} {pos : String} {after : Array Edge} {gd : Option (Nat × Bool)} {t : TypeId} {x y z u : Operand} {sz e : Nat} {ds : List D}
theorem aLit4 (he : elemTy C.P t = some e) (hs : elemSize C.P t = some sz) (hz : (zeroOf C.P e).isSome = true) (hp : Nat.blt 0 sz = true) (hb : Nat.ble (4 * sz) 16777216 = true) (hd : Nat.blt d C.N = true) (hro : Nat.ble C.ro η.length = true) (hc : CoL η σ [x, y, z, u] ds) (hf : sized ds sz = true)
    (h : alex C false ops rest K ((d, .buf η.length ds.length) :: σ) (η ++ [.buf false e sz ds])) : astep C false ops ⟨some d, .buildSlice t 4 #[(0, x), (1, y), (2, z), (3, u)], ty, pos, after, gd⟩ rest K σ η :=
  aLit (xs := [x, y, z, u]) he hs hz hp hb rfl hc (sized_spec hf).1 (sized_spec hf).2 hd hro (by rfl) h
end
end Go.Sx
/- The engine: contracts of functions that write to objects of their caller. -/
namespace Go.Sx
open Go.RowKit

/-! ### other names for objects -/
def SV.ren (ids : List Nat) : SV → SV
  | .ptr i o => .ptr (ids.getD i 0) o
  | .bptr i k o => .bptr (ids.getD i 0) k o
  | .buf i n => .buf (ids.getD i 0) n
  | .clo f l => .clo f (l.map fun i => ids.getD i 0)
  | s => s
def Ob.ren (ids : List Nat) : Ob → Ob
  | .bx k et cs => .bx k et (cs.map (SV.ren ids))
  | o => o
/-- where a box lies is forgotten -/
def Ob.forget : Ob → Ob
  | .bx _ et cs => .bx none et cs
  | o => o
/-- the new object; where the old box lay it lies -/
def Ob.back : Ob → Ob → Ob
  | .bx k _ _, .bx _ et cs => .bx k et cs
  | _, n => n
def isBox : Ob → Bool
  | .bx _ _ _ => true
  | _ => false
/-- what a slot says after objects have turned: rows and iterators of 'bufs' may lie elsewhere -/
def SV.wipe (bufs all : List Nat) : SV → SV
  | .ptr i o => match bufs.any (Nat.beq i) with
    | true => .top
    | false => .ptr i o
  | .bptr i k o => match all.any (Nat.beq i) with
    | true => .top
    | false => .bptr i k o
  | .buf i n => match all.any (Nat.beq i) with
    | true => .top
    | false => .buf i n
  | .clo f l => match l.any fun i => bufs.any (Nat.beq i) with
    | true => .top
    | false => .clo f l
  | s => s
def wipeσ (bufs all : List Nat) : Sl → Sl
  | [] => []
  | (k, s) :: r => (k, s.wipe bufs all) :: wipeσ bufs all r
def Ob.wipe (bufs all : List Nat) : Ob → Ob
  | .bx k et cs => .bx k et (cs.map (SV.wipe bufs all))
  | o => o
def wipeη (bufs all : List Nat) : List Ob → List Ob
  | [] => []
  | o :: r => o.wipe bufs all :: wipeη bufs all r
def setAll : List Ob → List Nat → List Ob → List Ob
  | η, i :: is, p :: ps => setAll (η.set i (Ob.back (η.getD i .gone) p)) is ps
  | η, _, _ => η
def bufsOf : List Nat → List Ob → List Nat
  | i :: is, o :: r => match isBox o with
    | true => bufsOf is r
    | false => i :: bufsOf is r
  | _, _ => []

theorem any_beq {l : List Nat} {i : Nat} : l.any (Nat.beq i) = true ↔ i ∈ l := by
  rw [List.any_eq_true]
  exact ⟨fun ⟨x, h1, h2⟩ => by rw [Nat.eq_of_beq_eq_true h2]; exact h1, fun h => ⟨i, h, Nat.beq_refl i⟩⟩
theorem any_beq_f {l : List Nat} {i : Nat} (h : l.any (Nat.beq i) = false) : i ∉ l := fun hm => by
  rw [any_beq.2 hm] at h; cases h

theorem get_wipe (bufs all : List Nat) : ∀ (σ : Sl) (t : Nat), get (wipeσ bufs all σ) t = (get σ t).wipe bufs all
  | [], t => rfl
  | (k, s) :: r, t => by
    unfold wipeσ
    rw [get_cons, get_cons]
    split
    · rfl
    · exact get_wipe bufs all r t
theorem wipeη_len (bufs all : List Nat) : ∀ (η : List Ob), (wipeη bufs all η).length = η.length
  | [] => rfl
  | _ :: r => by simp [wipeη, wipeη_len bufs all r]
theorem wipeη_get (bufs all : List Nat) : ∀ (η : List Ob) (i : Nat), (wipeη bufs all η)[i]? = (η[i]?).map (Ob.wipe bufs all)
  | [], i => by simp [wipeη]
  | o :: r, 0 => by simp [wipeη]
  | o :: r, i + 1 => by simp [wipeη, wipeη_get bufs all r i]

theorem RepS.wipe {g g' : Gh} {w w' : World} {v : Value} {s : SV} {bufs all : List Nat} (k : Keep g.St w g'.St w') (h1 : ∀ i, i ∉ all → g'.blk i = g.blk i ∧ g'.cap i = g.cap i ∧ g'.sz i = g.sz i) (h2 : ∀ i, i ∉ bufs → g'.blk i = g.blk i) (hn : g'.n = g.n)
    (r : RepS g w v s) : RepS g' w' v (s.wipe bufs all) := by
  cases s with
  | d d => exact RepD.keep k r
  | nil => exact r
  | ptr i off =>
    cases he : bufs.any (Nat.beq i) with
    | true => simp only [SV.wipe, he]; trivial
    | false =>
      simp only [SV.wipe, he]
      obtain ⟨q1, b, q2, q3⟩ := r
      exact ⟨by omega, b, by rw [h2 i (any_beq_f he)]; exact q2, q3⟩
  | rptr cs =>
    obtain ⟨ad, us, q1, q2, q3, q4, q5⟩ := r
    exact ⟨ad, us, q1, q2, q3, fun j u hu => (q4 j u hu).keep k, fun j u d hu hd => (q5 j u d hu hd).keep k⟩
  | bptr i j off =>
    cases he : all.any (Nat.beq i) with
    | true => simp only [SV.wipe, he]; trivial
    | false =>
      simp only [SV.wipe, he]
      obtain ⟨q1, b, q2, q3⟩ := r
      exact ⟨by omega, b, by rw [(h1 i (any_beq_f he)).1]; exact q2, by rw [(h1 i (any_beq_f he)).2.2]; exact q3⟩
  | buf i n =>
    cases he : all.any (Nat.beq i) with
    | true => simp only [SV.wipe, he]; trivial
    | false =>
      simp only [SV.wipe, he]
      obtain ⟨q1, q2⟩ := r
      exact ⟨by omega, by rw [(h1 i (any_beq_f he)).1, (h1 i (any_beq_f he)).2.1]; exact q2⟩
  | clo f l =>
    cases he : (l.any fun i => bufs.any (Nat.beq i)) with
    | true => simp only [SV.wipe, he]; trivial
    | false =>
      simp only [SV.wipe, he]
      obtain ⟨vs, q1, q2, q3⟩ := r
      refine ⟨vs, q1, q2, fun j id u hj hu => ?_⟩
      obtain ⟨q4, b, q5, q6⟩ := q3 j id u hj hu
      have hnb : id ∉ bufs := by
        have := List.any_eq_false.1 he id (List.mem_of_getElem? hj)
        exact fun hm => this (any_beq.2 hm)
      exact ⟨by omega, b, by rw [h2 id hnb]; exact q5, q6⟩
  | p φ => exact r
  | top => trivial

/-- an object under another name: from the callee's names to the caller's -/
theorem RepS.ren {g g2 : Gh} {w : World} {v : Value} {s : SV} {ids : List Nat} (hst : g2.St = g.St) (hm : ∀ j, j < g.n → ids.getD j 0 < g2.n ∧ g2.blk (ids.getD j 0) = g.blk j ∧ g2.cap (ids.getD j 0) = g.cap j ∧ g2.sz (ids.getD j 0) = g.sz j)
    (r : RepS g w v s) : RepS g2 w v (s.ren ids) := by
  cases s with
  | d d => show RepD g2.St w v d; rw [hst]; exact r
  | nil => exact r
  | ptr i off => obtain ⟨q1, b, q2, q3⟩ := r; obtain ⟨e1, e2, _, _⟩ := hm i q1; exact ⟨e1, b, by rw [e2]; exact q2, q3⟩
  | rptr cs =>
    obtain ⟨ad, us, q1, q2, q3, q4, q5⟩ := r
    exact ⟨ad, us, q1, q2, q3, fun j u hu => by rw [hst]; exact q4 j u hu, fun j u d hu hd => by rw [hst]; exact q5 j u d hu hd⟩
  | bptr i j off => obtain ⟨q1, b, q2, q3⟩ := r; obtain ⟨e1, e2, _, e4⟩ := hm i q1; exact ⟨e1, b, by rw [e2]; exact q2, by rw [e4]; exact q3⟩
  | buf i n => obtain ⟨q1, q2⟩ := r; obtain ⟨e1, e2, e3, _⟩ := hm i q1; exact ⟨e1, by rw [e2, e3]; exact q2⟩
  | clo f l =>
    obtain ⟨vs, q1, q2, q3⟩ := r
    refine ⟨vs, q1, by simpa using q2, fun j id u hj hu => ?_⟩
    rw [List.getElem?_map] at hj
    cases hl : l[j]? with
    | none => simp [hl] at hj
    | some i0 =>
      simp [hl] at hj; subst hj
      obtain ⟨q4, b, q5, q6⟩ := q3 j i0 u hl hu
      obtain ⟨e1, e2, _, _⟩ := hm i0 q4
      simp only [List.getD_eq_getElem?_getD] at e1 e2
      exact ⟨e1, b, by rw [e2]; exact q5, q6⟩
  | p φ => exact r
  | top => trivial
/-- and back -/
theorem RepS.unren {g g2 : Gh} {w : World} {v : Value} {s : SV} {ids : List Nat} (hst : g.St = g2.St) (hs : s.below g.n = true) (hm : ∀ j, j < g.n → g2.blk (ids.getD j 0) = g.blk j ∧ g2.cap (ids.getD j 0) = g.cap j ∧ g2.sz (ids.getD j 0) = g.sz j)
    (r : RepS g2 w v (s.ren ids)) : RepS g w v s := by
  have bl : ∀ {i : Nat}, Nat.blt i g.n = true → i < g.n := fun h => by simpa using h
  cases s with
  | d d => show RepD g.St w v d; rw [hst]; exact r
  | nil => exact r
  | ptr i off => obtain ⟨q1, b, q2, q3⟩ := r; obtain ⟨e2, _, _⟩ := hm i (bl hs); exact ⟨bl hs, b, by rw [← e2]; exact q2, q3⟩
  | rptr cs =>
    obtain ⟨ad, us, q1, q2, q3, q4, q5⟩ := r
    exact ⟨ad, us, q1, q2, q3, fun j u hu => by rw [hst]; exact q4 j u hu, fun j u d hu hd => by rw [hst]; exact q5 j u d hu hd⟩
  | bptr i j off => obtain ⟨q1, b, q2, q3⟩ := r; obtain ⟨e2, _, e4⟩ := hm i (bl hs); exact ⟨bl hs, b, by rw [← e2]; exact q2, by rw [← e4]; exact q3⟩
  | buf i n => obtain ⟨q1, q2⟩ := r; obtain ⟨e2, e3, _⟩ := hm i (bl hs); exact ⟨bl hs, by rw [← e2, ← e3]; exact q2⟩
  | clo f l =>
    obtain ⟨vs, q1, q2, q3⟩ := r
    refine ⟨vs, q1, by simpa using q2, fun j id u hj hu => ?_⟩
    have hlt := bl (List.all_eq_true.1 hs id (List.mem_of_getElem? hj))
    obtain ⟨q4, b, q5, q6⟩ := q3 j (ids.getD id 0) u (by rw [List.getElem?_map, hj]; rfl) hu
    obtain ⟨e2, _, _⟩ := hm id hlt
    exact ⟨hlt, b, by rw [← e2]; exact q5, q6⟩
  | p φ => exact r
  | top => trivial

/-! ### the contract -/
structure Frame (g : Gh) (w : World) (pre : List Ob) (g' : Gh) (w' : World) : Prop where
  os : w'.os = w.os
  tape : w'.tape = w.tape
  output : w'.output = w.output
  size : w.heap.size ≤ w'.heap.size
  heap : ∀ k, k < w.heap.size → (∀ j, g.blk j ≠ some k) → w'.heap[k]? = w.heap[k]?
  keep : Keep g.St w g'.St w'
  new : ∀ b o, g'.St b o → g.St b o ∨ w.heap.size ≤ b ∨ ∃ j, g.blk j = some b
  own : ∀ j b, g'.blk j = some b → w.heap.size ≤ b ∨ ∃ i, g.blk i = some b
  box : ∀ j k et cs, pre[j]? = some (.bx k et cs) → g'.blk j = g.blk j

def RepSs (g : Gh) (w : World) : List Value → List SV → Prop
  | [], [] => True
  | v :: vs, s :: ss => RepS g w v s ∧ RepSs g w vs ss
  | _, _ => False

/-- What a call of f comes to, that turns objects pre into post. -/
def MCall (P : Program) (f : FuncId) (as : List SV) (pre : List Ob) (res : SV) (post : List Ob) : Prop :=
  ∀ (g : Gh) (w : World) (vs : List Value), Inv g w pre → RepSs g w vs as →
    Calls P f vs.toArray w (fun e w' => ∃ v g', e = .returned v ∧ Inv g' w' post ∧ RepS g' w' v res ∧ Frame g w pre g' w')

/-! ### how such a function is entered -/
def anch (f : Nat → Option Nat) : Nat → List Ob → List Ob
  | _, [] => []
  | i, .bx _ et cs :: r => .bx (f i) et cs :: anch f (i + 1) r
  | i, o :: r => o :: anch f (i + 1) r
theorem anch_get (f : Nat → Option Nat) : ∀ (l : List Ob) (i j : Nat), (anch f i l)[j]? = (l[j]?).map fun o => match o with | .bx _ et cs => .bx (f (i + j)) et cs | o => o
  | [], i, j => by simp [anch]
  | o :: r, i, 0 => by cases o <;> simp [anch]
  | o :: r, i, j + 1 => by
    have := anch_get f r (i + 1) j
    rw [show i + (j + 1) = i + 1 + j by omega]
    cases o <;> simp only [anch, List.getElem?_cons_succ] <;> exact this
theorem anch_len (f : Nat → Option Nat) : ∀ (l : List Ob) (i : Nat), (anch f i l).length = l.length
  | [], _ => rfl
  | o :: r, i => by cases o <;> simp [anch, anch_len f r (i + 1)]

theorem Inv.anch {g : Gh} {w : World} {pre : List Ob} (h : Inv g w pre) : Inv g w (anch g.blk 0 pre) := by
  refine ⟨by rw [anch_len]; exact h.n, h.lt, h.dead, h.inj, fun id o ho => ?_, h.st, h.gl⟩
  rw [anch_get] at ho
  cases hp : pre[id]? with
  | none => simp [hp] at ho
  | some p =>
    rw [hp, Option.map_some] at ho
    injection ho with ho
    have := h.ob id p hp
    cases p with
    | bx k et cs =>
      subst ho
      obtain ⟨b, e, us, h1, h2, h3, h4, h5, h6, h7⟩ := this
      exact ⟨b, e, us, h1, h2, h3, h4, h5, h6, ⟨fun c hc => by simp only [Nat.zero_add] at hc; rw [h1] at hc; injection hc with hc; exact hc.symm, h7.2⟩⟩
    | _ => subst ho; exact this
theorem Inv.unanch {g : Gh} {w : World} {f : Nat → Option Nat} {post : List Ob} (hn : post.all (fun o => match o with | .bx (some _) _ _ => false | _ => true) = true) (h : Inv g w (Sx.anch f 0 post)) : Inv g w post ∧ ∀ j k et cs, post[j]? = some (.bx k et cs) → ∃ b, g.blk j = some b ∧ ∀ c, f j = some c → c = b := by
  have key : ∀ j k et cs, post[j]? = some (.bx k et cs) → ∃ b, g.blk j = some b ∧ ∀ c, f j = some c → c = b := by
    intro j k et cs hj
    have := h.ob j (.bx (f j) et cs) (by rw [anch_get, hj, Option.map_some]; simp)
    obtain ⟨b, e, us, h1, h2, h3, h4, h5, h6, h7⟩ := this
    exact ⟨b, h1, h7.1⟩
  refine ⟨⟨by have := h.n; rwa [anch_len] at this, h.lt, h.dead, h.inj, fun id o ho => ?_, h.st, h.gl⟩, key⟩
  have hno := List.all_eq_true.1 hn o (List.mem_of_getElem? ho)
  cases o with
  | bx k et cs =>
    have := h.ob id (.bx (f id) et cs) (by rw [anch_get, ho, Option.map_some]; simp)
    obtain ⟨b, e, us, h1, h2, h3, h4, h5, h6, h7⟩ := this
    cases k with
    | none => exact ⟨b, e, us, h1, h2, h3, h4, h5, h6, fun _ hc => (by cases hc), h7.2⟩
    | some c => cases hno
  | buf mu e sz xs => exact h.ob id (.buf mu e sz xs) (by rw [anch_get, ho, Option.map_some])
  | iter s p => exact h.ob id (.iter s p) (by rw [anch_get, ho, Option.map_some])
  | gone => trivial

def sargs : List SV → Nat → Sl
  | [], _ => []
  | s :: r, k => (k, s) :: sargs r (k + 1)
theorem RepSs.len {g : Gh} {w : World} : ∀ {vs : List Value} {ss : List SV}, RepSs g w vs ss → vs.length = ss.length
  | [], [], _ => rfl
  | _ :: _, _ :: _, h => by simp [RepSs.len h.2]
  | [], _ :: _, h => h.elim
  | _ :: _, [], h => h.elim
theorem sargs_rep {g : Gh} {w : World} : ∀ (vs : List Value) (ss : List SV) (k : Nat) (f : Nat → Value), RepSs g w vs ss → (∀ j v, vs[j]? = some v → f (k + j) = v) → ∀ t, RepS g w (f t) (get (sargs ss k) t)
  | [], [], _, _, _, _, _ => trivial
  | v :: vs, s :: ss, k, f, h, hf, t => by
    unfold sargs
    rw [get_cons]
    split
    · rename_i e; subst e
      have := hf 0 v rfl
      rw [Nat.add_zero] at this
      rw [this]; exact h.1
    · exact sargs_rep vs ss (k + 1) f h.2 (fun j v' hj => by rw [← hf (j + 1) v' hj]; congr 1; omega) t
  | [], _ :: _, _, _, h, _, _ => h.elim
  | _ :: _, [], _, _, h, _, _ => h.elim

def MRes (rs : Array ResultVar) (res : SV) (post : List Ob) (σ : Sl) (η : List Ob) : Prop :=
  match rs.toList with
  | [.tmp r] => Fits [(r, res)] post σ η
  | [.tmp _, .tmp _] => res = .top ∧ Fits [] post σ η
  | [] => res = .top ∧ Fits [] post σ η
  | _ => False
def mpost (rs : Array ResultVar) (res : SV) (post : List Ob) : Exit → Sl → List Ob → Prop
  | .ret, σ, η => MRes rs res post σ η
  | .normal, σ, η => MRes rs res post σ η
  | _, _, _ => False
theorem mpost_ret {rs : Array ResultVar} {res : SV} {post : List Ob} {σ : Sl} {η : List Ob} (h : MRes rs res post σ η) : mpost rs res post .ret σ η := h
theorem mpost_nrm {rs : Array ResultVar} {res : SV} {post : List Ob} {σ : Sl} {η : List Ob} (h : MRes rs res post σ η) : mpost rs res post .normal σ η := h

theorem MRes.abs {rs : Array ResultVar} {res : SV} {post : List Ob} {σ : Sl} {η : List Ob} {P : Program} {fn : Func} {w : World} {a : Act} {C : Ctx} (hrs : fn.results = rs) (h : MRes rs res post σ η) (ha : Abs C σ η a w) :
    ∃ v g σ', (results fn a.tmps).run P w = .ok v w ∧ AbsG C g σ' post a w ∧ RepS g w v res := by
  obtain ⟨rl⟩ := rs
  unfold MRes at h
  split at h
  · rename_i r hr
    simp at hr; subst hr
    obtain ⟨g, hg⟩ := h.abs ha
    refine ⟨_, g, _, results_tmp hrs _ _ _, hg, ?_⟩
    have := hg.rep r
    rw [get_cons, if_pos rfl] at this
    exact this
  · rename_i r s hr
    simp at hr; subst hr
    obtain ⟨rfl, h⟩ := h
    obtain ⟨g, hg⟩ := h.abs ha
    exact ⟨_, g, _, results_tmp2 hrs _ _ _, hg, trivial⟩
  · rename_i hr
    simp at hr; subst hr
    obtain ⟨rfl, h⟩ := h
    obtain ⟨g, hg⟩ := h.abs ha
    exact ⟨_, g, _, results_none hrs _ _ _, hg, trivial⟩
  · exact h.elim

def unlaid (l : List Ob) : Bool := l.all fun o => match o with | .bx (some _) _ _ => false | _ => true
def sameBoxes : List Ob → List Ob → Bool
  | [], [] => true
  | o :: r, p :: s => (isBox o == isBox p) && sameBoxes r s
  | _, _ => false
theorem sameBoxes_len : ∀ {l m : List Ob}, sameBoxes l m = true → l.length = m.length
  | [], [], _ => rfl
  | o :: r, p :: s, h => by simp only [sameBoxes, Bool.and_eq_true] at h; simp [sameBoxes_len h.2]
  | [], _ :: _, h => by cases h
  | _ :: _, [], h => by cases h
theorem sameBoxes_get : ∀ {l m : List Ob}, sameBoxes l m = true → ∀ (j : Nat) (o p : Ob), l[j]? = some o → m[j]? = some p → isBox o = isBox p
  | o :: r, p :: s, h, 0, o', p', ho, hp => by
    simp only [sameBoxes, Bool.and_eq_true, beq_iff_eq] at h
    simp at ho hp; subst ho; subst hp; exact h.1
  | o :: r, p :: s, h, j + 1, o', p', ho, hp => by
    simp only [sameBoxes, Bool.and_eq_true] at h
    exact sameBoxes_get h.2 j o' p' (by simpa using ho) (by simpa using hp)
  | [], _, _, j, _, _, ho, _ => by simp at ho
  | _ :: _, [], h, _, _, _, _, _ => by cases h

/-- SUCH A FUNCTION IS ENTERED. -/
theorem mcall_of {P : Program} {f : FuncId} {fn : Func} {c : Code} {as : List SV} {pre post : List Ob} {res : SV} {N : Nat} {rs : Array ResultVar} (hf : P.funcs[f]? = some fn) (hb : fn.body = some c) (hN : fn.ntmps = N) (hrs : fn.results = rs) (hl : Nat.ble as.length N = true)
    (hk : sameBoxes pre post = true) (hu : unlaid post = true)
    (h : ∀ (w0 : World) (St0 : Stab) (X : Nat → Prop) (fx : Nat → Option Nat), awp ⟨P, N, w0, St0, X, 0⟩ c (mpost rs res (anch fx 0 post)) (sargs as 0) (anch fx 0 pre)) : MCall P f as pre res post := by
  intro g w vs hi hrep
  subst hN
  have hl := Nat.le_of_ble_eq_true hl
  have hlen := hrep.len
  refine calls_of_wp hf hb (h w g.St (fun b => ∃ j, g.blk j = some b) g.blk _ ?_ _ _ ?_)
  · intro e σ' η' a' w' hq ha
    have fin : MRes rs res (anch g.blk 0 post) σ' η' → a'.defers = [] ∧ ∃ v, (results fn a'.tmps).run P w' = .ok v w' ∧ ∃ v_1 g', Ending.returned v = .returned v_1 ∧ Inv g' w' post ∧ RepS g' w' v_1 res ∧ Frame g w pre g' w' := by
      intro hq
      obtain ⟨v, g', σ2, hr, hA, hrep'⟩ := hq.abs (P := P) hrs ha
      obtain ⟨hI, hbx⟩ := hA.inv.unanch hu
      refine ⟨hA.defers, v, hr, v, g', rfl, hI, hrep', ⟨hA.os, hA.tape, hA.output, hA.wsize, fun k hk hno => hA.heap k hk (fun ⟨j, hj⟩ => hno j hj), hA.keep, fun b o hbo => ?_, fun j b hj => hA.own j b hj (Nat.zero_le _), fun j k et cs hj => ?_⟩⟩
      · exact hA.new b o hbo
      · have hjl : j < post.length := by rw [← sameBoxes_len hk]; exact (List.getElem?_eq_some_iff.1 hj).1
        have hp : post[j]? = some post[j] := List.getElem?_eq_getElem hjl
        have hs := sameBoxes_get hk j _ _ hj hp
        cases hpj : post[j] with
        | bx k2 et2 cs2 =>
          rw [hpj] at hp
          obtain ⟨b', hb', hc'⟩ := hbx j k2 et2 cs2 hp
          obtain ⟨b, e, us, o1, _⟩ := hi.ob j _ hj
          rw [hb', o1, hc' b o1]
        | _ => rw [hpj] at hs; cases hs
    cases e <;> first | exact fin hq | exact hq.elim
  · refine ⟨g, rfl, ?_, hi.anch, rfl, rfl, rfl, Nat.le_refl _, fun _ _ _ => rfl, Keep.refl g.St w, fun _ _ h => .inl h, fun i b hb _ => .inr ⟨i, hb⟩, ?_⟩
    · simp [hlen]; omega
    · refine sargs_rep vs as 0 _ hrep fun j v hj => ?_
      have hjl : j < vs.length := (List.getElem?_eq_some_iff.1 hj).1
      simp only [Nat.zero_add, Array.getD_eq_getD_getElem?]
      rw [Array.getElem?_append_left (by simpa using hjl)]
      simp [hj]
end Go.Sx
/- The engine: a call of a function that writes to objects of its caller. -/
namespace Go.Sx
open Go.RowKit

/-- at which place a name stands -/
def look : List Nat → Nat → Option Nat
  | [], _ => none
  | x :: r, i => match Nat.beq x i with
    | true => some 0
    | false => (look r i).map (· + 1)
theorem look_some : ∀ {l : List Nat} {i j : Nat}, look l i = some j → l[j]? = some i
  | x :: r, i, j, h => by
    unfold look at h
    split at h
    · rename_i hb; injection h with h; subst h; rw [Nat.eq_of_beq_eq_true hb]; rfl
    · cases hl : look r i with
      | none => simp [hl] at h
      | some j' => simp [hl] at h; subst h; simpa using look_some hl
  | [], _, _, h => by cases h
theorem look_none : ∀ {l : List Nat} {i : Nat}, look l i = none → i ∉ l
  | x :: r, i, h => by
    unfold look at h
    split at h
    · cases h
    · rename_i hb
      cases hl : look r i with
      | none =>
        have h1 := look_none hl
        intro hm
        rcases List.mem_cons.1 hm with rfl | hm
        · simp at hb
        · exact h1 hm
      | some j' => simp [hl] at h
  | [], _, _ => by simp
theorem look_of {l : List Nat} (hn : l.Nodup) {i j : Nat} (h : l[j]? = some i) : look l i = some j := by
  cases hl : look l i with
  | none => exact absurd (List.mem_of_getElem? h) (look_none hl)
  | some k =>
    have h1 := look_some hl
    obtain ⟨q1, e1⟩ := List.getElem?_eq_some_iff.1 h
    obtain ⟨q2, e2⟩ := List.getElem?_eq_some_iff.1 h1
    have hp := List.pairwise_iff_getElem.1 hn
    rcases Nat.lt_trichotomy j k with hlt | hlt | hlt
    · exact absurd (e1.trans e2.symm) (hp j k q1 q2 hlt)
    · rw [hlt]
    · exact absurd (e2.trans e1.symm) (hp k j q2 q1 hlt)

theorem setAll_len : ∀ (η : List Ob) (is : List Nat) (ps : List Ob), (setAll η is ps).length = η.length
  | η, i :: is, p :: ps => by rw [setAll, setAll_len]; simp
  | η, [], ps => by cases ps <;> rfl
  | η, _ :: _, [] => rfl
theorem setAll_out : ∀ (η : List Ob) (is : List Nat) (ps : List Ob) (i : Nat), i ∉ is → (setAll η is ps)[i]? = η[i]?
  | η, x :: is, p :: ps, i, h => by
    have h1 : x ≠ i := fun e => h (by rw [e]; simp)
    rw [setAll, setAll_out _ is ps i (fun hm => h (List.mem_cons_of_mem _ hm)), List.getElem?_set]
    rw [if_neg h1]
  | η, [], ps, _, _ => by cases ps <;> rfl
  | η, _ :: _, [], _, _ => rfl
theorem setAll_in : ∀ (η : List Ob) (is : List Nat) (ps : List Ob) (j i : Nat) (o p : Ob), is.Nodup → is[j]? = some i → ps[j]? = some p → η[i]? = some o → (setAll η is ps)[i]? = some (Ob.back o p)
  | η, x :: is, q :: ps, 0, i, o, p, hn, h1, h2, h3 => by
    simp at h1 h2; subst h1; subst h2
    rw [setAll, setAll_out _ is ps x (List.nodup_cons.1 hn).1, List.getElem?_set, if_pos rfl, if_pos (List.getElem?_eq_some_iff.1 h3).1, List.getD_eq_getElem?_getD, h3]; rfl
  | η, x :: is, q :: ps, j + 1, i, o, p, hn, h1, h2, h3 => by
    obtain ⟨hx, hn⟩ := List.nodup_cons.1 hn
    have h1 : is[j]? = some i := by simpa using h1
    have hne : x ≠ i := fun e => hx (e ▸ List.mem_of_getElem? h1)
    rw [setAll]
    exact setAll_in _ is ps j i o p hn h1 (by simpa using h2) (by rw [List.getElem?_set, if_neg hne]; exact h3)
  | η, [], _, _, _, _, _, _, h1, _, _ => by simp at h1
  | η, _ :: _, [], _, _, _, _, _, _, h2, _ => by simp at h2

theorem bufsOf_in : ∀ {ids : List Nat} {pre : List Ob} {j i : Nat} {o : Ob}, ids[j]? = some i → pre[j]? = some o → isBox o = false → i ∈ bufsOf ids pre
  | x :: ids, p :: pre, 0, i, o, h1, h2, hb => by
    simp at h1 h2; subst h1; subst h2
    unfold bufsOf; rw [hb]; simp
  | x :: ids, p :: pre, j + 1, i, o, h1, h2, hb => by
    have := bufsOf_in (ids := ids) (pre := pre) (j := j) (by simpa using h1) (by simpa using h2) hb
    unfold bufsOf
    split
    · exact this
    · exact List.mem_cons_of_mem _ this
  | [], _, _, _, _, h1, _, _ => by simp at h1
  | _ :: _, [], _, _, _, _, h2, _ => by simp at h2

/-- the objects that the callee sees -/
def Picks (η : List Ob) (ids : List Nat) (pre : List Ob) : Prop := (ids.map fun i => (η[i]?).map Ob.forget) = pre.map fun p => some (p.ren ids)

theorem Picks.get {η : List Ob} {ids : List Nat} {pre : List Ob} (h : Picks η ids pre) {j i : Nat} {p : Ob} (hi : ids[j]? = some i) (hp : pre[j]? = some p) : ∃ o, η[i]? = some o ∧ o.forget = p.ren ids := by
  have h1 : (ids.map fun i => (η[i]?).map Ob.forget)[j]? = (pre.map fun p => some (p.ren ids))[j]? := by rw [h]
  rw [List.getElem?_map, List.getElem?_map, hi, hp] at h1
  simp only [Option.map_some, Option.some.injEq] at h1
  cases ho : η[i]? with
  | none => simp [ho] at h1
  | some o => simp [ho] at h1; exact ⟨o, rfl, h1⟩

theorem forget_buf {o : Ob} {ids : List Nat} {p : Ob} (h : o.forget = p.ren ids) (hp : isBox p = false) : o = p := by
  cases p with
  | bx k et cs => cases hp
  | buf mu e sz xs => cases o <;> simp [Ob.forget, Ob.ren] at h ⊢ <;> exact h
  | iter s q => cases o <;> simp [Ob.forget, Ob.ren] at h ⊢ <;> exact h
  | gone => cases o <;> simp [Ob.forget, Ob.ren] at h ⊢

def calleeG (g : Gh) (ids : List Nat) : Gh := { g with blk := fun j => (ids[j]?).bind g.blk, cap := fun j => g.cap (ids.getD j 0), sz := fun j => g.sz (ids.getD j 0), n := ids.length }
def callerG (g g' : Gh) (ids : List Nat) : Gh :=
  { St := g'.St, blk := fun i => match look ids i with | some j => g'.blk j | none => g.blk i, cap := fun i => match look ids i with | some j => g'.cap j | none => g.cap i, sz := fun i => match look ids i with | some j => g'.sz j | none => g.sz i, n := g.n }

theorem getD_some {ids : List Nat} {j i : Nat} (h : ids[j]? = some i) : ids.getD j 0 = i := by rw [List.getD_eq_getElem?_getD, h]; rfl

theorem Inv.callee {g : Gh} {w : World} {η : List Ob} {ids : List Nat} {pre : List Ob} (hi : Inv g w η) (hn : ids.Nodup) (hlen : ids.length = pre.length) (hp : Picks η ids pre) (hu : unlaid pre = true) (hb : pre.all (Ob.below pre.length) = true) : Inv (calleeG g ids) w pre := by
  have hg : ∀ j b, (calleeG g ids).blk j = some b → ∃ i, ids[j]? = some i ∧ g.blk i = some b := by
    intro j b h
    simp only [calleeG] at h
    cases hj : ids[j]? with
    | none => simp [hj] at h
    | some i => simp [hj] at h; exact ⟨i, rfl, h⟩
  refine ⟨by simp [calleeG, hlen], fun j b h => ?_, fun j h => ?_, fun i j b h1 h2 => ?_, fun j p hpj => ?_, hi.st, hi.gl⟩
  · obtain ⟨i, _, h1⟩ := hg j b h; exact hi.lt i b h1
  · simp only [calleeG] at h ⊢; rw [List.getElem?_eq_none h]; rfl
  · obtain ⟨i1, q1, q2⟩ := hg i b h1
    obtain ⟨i2, q3, q4⟩ := hg j b h2
    have := hi.inj i1 i2 b q2 q4
    subst this
    have a1 := look_of hn q1
    rw [look_of hn q3] at a1
    exact (Option.some.inj a1).symm
  · have hjl : j < ids.length := by rw [hlen]; exact (List.getElem?_eq_some_iff.1 hpj).1
    have hij : ids[j]? = some ids[j] := List.getElem?_eq_getElem hjl
    obtain ⟨o, ho, hf⟩ := hp.get hij hpj
    have hoo := hi.ob _ o ho
    have eb : (calleeG g ids).blk j = g.blk ids[j] := by simp [calleeG, hij]
    have ec : (calleeG g ids).cap j = g.cap ids[j] := by simp only [calleeG]; rw [getD_some hij]
    have es : (calleeG g ids).sz j = g.sz ids[j] := by simp only [calleeG]; rw [getD_some hij]
    have hm : ∀ k, k < (calleeG g ids).n → g.blk (ids.getD k 0) = (calleeG g ids).blk k ∧ g.cap (ids.getD k 0) = (calleeG g ids).cap k ∧ g.sz (ids.getD k 0) = (calleeG g ids).sz k := by
      intro k hk
      have hk' : ids[k]? = some ids[k] := List.getElem?_eq_getElem hk
      exact ⟨by simp only [calleeG]; rw [getD_some hk', hk']; rfl, rfl, rfl⟩
    cases hbx : isBox p with
    | false =>
      have := forget_buf hf hbx
      subst this
      cases o with
      | bx k et cs => cases hbx
      | buf mu e sz xs =>
        obtain ⟨h1, h2, h3, h4, h5⟩ := hoo
        exact ⟨by rw [es]; exact h1, h2, by rw [ec]; exact h3, by rw [ec]; exact h4, by rw [eb, ec]; exact h5⟩
      | iter s q => obtain ⟨b, h1, h2, h3⟩ := hoo; exact ⟨b, by rw [eb]; exact h1, h2, h3⟩
      | gone => trivial
    | true =>
      cases p with
      | bx k et cs =>
        have hbelow := List.all_eq_true.1 hb _ (List.mem_of_getElem? hpj)
        have hnone := List.all_eq_true.1 hu _ (List.mem_of_getElem? hpj)
        cases k with
        | some c => cases hnone
        | none =>
          cases o with
          | bx k2 et2 cs2 =>
            simp only [Ob.forget, Ob.ren, Ob.bx.injEq, true_and] at hf
            obtain ⟨rfl, rfl⟩ := hf
            obtain ⟨b, e, us, h1, h2, h3, h4, h5, h6, h7⟩ := hoo
            refine ⟨b, e, us, by rw [eb]; exact h1, h2, by simpa using h3, h4, fun q u s hu' hs => ?_, h6, fun _ h => (by cases h), h7.2⟩
            have hsb := List.all_eq_true.1 hbelow s (List.mem_of_getElem? hs)
            refine RepS.unren (g := calleeG g ids) (g2 := g) rfl (by simp only [calleeG]; rw [hlen]; exact hsb) hm (h5 q u (s.ren ids) hu' ?_)
            rw [List.getElem?_map, hs]; rfl
          | _ => simp [Ob.forget, Ob.ren] at hf
      | _ => cases hbx

theorem RepSs.callee {g : Gh} {w : World} {ids : List Nat} {m : Nat} (hm' : ids.length = m) : ∀ (vs : List Value) (as : List SV), (∀ (j : Nat) v s, vs[j]? = some v → as[j]? = some s → RepS g w v (s.ren ids)) → vs.length = as.length → as.all (SV.below m) = true → RepSs (calleeG g ids) w vs as
  | [], [], _, _, _ => trivial
  | v :: vs, s :: as, h, hl, hb => by
    simp only [List.all_cons, Bool.and_eq_true] at hb
    refine ⟨RepS.unren (g := calleeG g ids) (g2 := g) rfl (by simp only [calleeG]; rw [hm']; exact hb.1) (fun k hk => ?_) (h 0 v s rfl rfl), RepSs.callee hm' vs as (fun j v' s' h1 h2 => h (j + 1) v' s' (by simpa using h1) (by simpa using h2)) (by simpa using hl) hb.2⟩
    have hk' : ids[k]? = some ids[k] := List.getElem?_eq_getElem hk
    exact ⟨by simp only [calleeG]; rw [getD_some hk', hk']; rfl, rfl, rfl⟩
  | [], _ :: _, _, hl, _ => by simp at hl
  | _ :: _, [], _, hl, _ => by simp at hl

section
variable {C : Ctx} {σ : Sl} {η : List Ob}
theorem AbsG.called {g g' : Gh} {a : Act} {w w' : World} (h : AbsG C g σ η a w) {ids : List Nat} {pre post : List Ob} {v : Value} {res : SV} (hn : ids.Nodup) (hlen : ids.length = pre.length) (hp : Picks η ids pre) (hk : sameBoxes pre post = true) (hro : ids.all (fun i => Nat.ble C.ro i) = true)
    (hI : Inv g' w' post) (hres : RepS g' w' v res) (hF : Frame (calleeG g ids) w pre g' w') :
    ∃ g2, AbsG C g2 (wipeσ (bufsOf ids pre) ids σ) (setAll (wipeη (bufsOf ids pre) ids η) ids (post.map (Ob.ren ids))) a w' ∧ RepS g2 w' v (res.ren ids) := by
  have hpl : pre.length = post.length := sameBoxes_len hk
  have hinl : ∀ i, i ∈ ids → i < g.n := by
    intro i hm
    obtain ⟨j, hj⟩ := List.mem_iff_getElem?.1 hm
    have hjl : j < pre.length := by rw [← hlen]; exact (List.getElem?_eq_some_iff.1 hj).1
    obtain ⟨o, ho, _⟩ := hp.get hj (List.getElem?_eq_getElem hjl)
    rw [h.inv.n]; exact (List.getElem?_eq_some_iff.1 ho).1
  have hgc : ∀ j b, (calleeG g ids).blk j = some b → ∃ i, ids[j]? = some i ∧ g.blk i = some b := by
    intro j b hb
    simp only [calleeG] at hb
    cases hj : ids[j]? with
    | none => simp [hj] at hb
    | some i => simp [hj] at hb; exact ⟨i, rfl, hb⟩
  have hown : ∀ j b, (calleeG g ids).blk j = some b → C.w0.heap.size ≤ b ∨ C.X b := by
    intro j b hb
    obtain ⟨i, hi, hb⟩ := hgc j b hb
    exact h.own i b hb (Nat.le_of_ble_eq_true (List.all_eq_true.1 hro i (List.mem_of_getElem? hi)))
  let g2 := callerG g g' ids
  have e_out : ∀ i, i ∉ ids → g2.blk i = g.blk i ∧ g2.cap i = g.cap i ∧ g2.sz i = g.sz i := by
    intro i hi
    have : look ids i = none := by
      cases hl : look ids i with
      | none => rfl
      | some j => exact absurd (List.mem_of_getElem? (look_some hl)) hi
    simp only [g2, callerG, this]; exact ⟨trivial, trivial, trivial⟩
  have e_in : ∀ j i, ids[j]? = some i → g2.blk i = g'.blk j ∧ g2.cap i = g'.cap j ∧ g2.sz i = g'.sz j := by
    intro j i hj
    simp only [g2, callerG, look_of hn hj]; exact ⟨trivial, trivial, trivial⟩
  have e_box : ∀ i, i ∉ bufsOf ids pre → g2.blk i = g.blk i := by
    intro i hi
    by_cases hm : i ∈ ids
    · obtain ⟨j, hj⟩ := List.mem_iff_getElem?.1 hm
      have hjl : j < pre.length := by rw [← hlen]; exact (List.getElem?_eq_some_iff.1 hj).1
      have hpj : pre[j]? = some pre[j] := List.getElem?_eq_getElem hjl
      cases hb : isBox pre[j] with
      | false => exact absurd (bufsOf_in hj hpj hb) hi
      | true =>
        rw [(e_in j i hj).1]
        cases hq : pre[j] with
        | bx k et cs =>
          rw [hq] at hpj
          rw [hF.box j k et cs hpj]
          simp [calleeG, hj]
        | _ => rw [hq] at hb; cases hb
    · exact (e_out i hm).1
  have kp : Keep g.St w g2.St w' := hF.keep
  have n2 : g2.n = g.n := rfl
  have rw_ : ∀ {u : Value} {s : SV}, RepS g w u s → RepS g2 w' u (s.wipe (bufsOf ids pre) ids) := fun r => r.wipe kp e_out e_box n2
  have rn_ : ∀ {u : Value} {s : SV}, RepS g' w' u s → RepS g2 w' u (s.ren ids) := fun r => RepS.ren (g := g') (g2 := g2) rfl (fun j hj => by
    have hjl : j < ids.length := by rw [hlen, hpl, ← hI.n]; exact hj
    have hj' : ids[j]? = some ids[j] := List.getElem?_eq_getElem hjl
    rw [getD_some hj']
    exact ⟨hinl _ (List.getElem_mem hjl), e_in j _ hj'⟩) r
  have hblk : ∀ i b, g2.blk i = some b → (i ∉ ids ∧ g.blk i = some b) ∨ ∃ j, ids[j]? = some i ∧ g'.blk j = some b := by
    intro i b hb
    cases hl : look ids i with
    | none => exact .inl ⟨look_none hl, by rw [← (e_out i (look_none hl)).1]; exact hb⟩
    | some j => exact .inr ⟨j, look_some hl, by rw [← (e_in j i (look_some hl)).1]; exact hb⟩
  -- a block of another object is none of the callee's
  have hforeign : ∀ i b, i ∉ ids → g.blk i = some b → ∀ j, (calleeG g ids).blk j ≠ some b := by
    intro i b hi hb j hj
    obtain ⟨i2, q1, q2⟩ := hgc j b hj
    have := h.inv.inj i i2 b hb q2
    exact hi (this ▸ List.mem_of_getElem? q1)
  refine ⟨g2, ⟨h.defers, h.size, ⟨by rw [setAll_len, wipeη_len]; exact h.inv.n, fun i b hb => ?_, fun i hi => ?_, fun i j b hbi hbj => ?_, fun i o ho => ?_, hI.st, hI.gl⟩, hF.os.trans h.os, hF.tape.trans h.tape, hF.output.trans h.output, Nat.le_trans h.wsize hF.size,
    fun k hk hx => ?_, h.keep.trans kp, fun b o hb => ?_, fun i b hb hr => ?_, fun t => ?_⟩, rn_ hres⟩
  · rcases hblk i b hb with ⟨_, h1⟩ | ⟨j, _, h1⟩
    · exact Nat.lt_of_lt_of_le (h.inv.lt i b h1) hF.size
    · exact hI.lt j b h1
  · have hm : i ∉ ids := fun hm => by have := hinl i hm; have hi : g.n ≤ i := hi; omega
    rw [(e_out i hm).1]; exact h.inv.dead i hi
  · rcases hblk i b hbi with ⟨q1, q2⟩ | ⟨j1, q1, q2⟩ <;> rcases hblk j b hbj with ⟨q3, q4⟩ | ⟨j2, q3, q4⟩
    · exact h.inv.inj i j b q2 q4
    · exfalso
      rcases hF.own j2 b q4 with h1 | ⟨k, h1⟩
      · have := h.inv.lt i b q2; omega
      · exact hforeign i b q1 q2 k h1
    · exfalso
      rcases hF.own j1 b q2 with h1 | ⟨k, h1⟩
      · have := h.inv.lt j b q4; omega
      · exact hforeign j b q3 q4 k h1
    · have := hI.inj j1 j2 b q2 q4
      subst this
      rw [q1] at q3; exact Option.some.inj q3
  · -- the objects
    by_cases hm : i ∈ ids
    · obtain ⟨j, hj⟩ := List.mem_iff_getElem?.1 hm
      have hjl : j < pre.length := by rw [← hlen]; exact (List.getElem?_eq_some_iff.1 hj).1
      have hpj : pre[j]? = some pre[j] := List.getElem?_eq_getElem hjl
      have hqj : post[j]? = some (post[j]'(by omega)) := List.getElem?_eq_getElem (by omega)
      obtain ⟨old, hold, hfo⟩ := hp.get hj hpj
      have hset := setAll_in (wipeη (bufsOf ids pre) ids η) ids (post.map (Ob.ren ids)) j i (old.wipe (bufsOf ids pre) ids) ((post[j]'(by omega)).ren ids) hn hj (by rw [List.getElem?_map, hqj]; rfl) (by rw [wipeη_get, hold]; rfl)
      rw [hset] at ho
      injection ho with ho
      have hoo := hI.ob j _ hqj
      have hs := sameBoxes_get hk j _ _ hpj hqj
      obtain ⟨eb, ec, es⟩ := e_in j i hj
      generalize post[j]'(by omega) = q at hoo hs ho
      cases q with
      | bx k et cs =>
        cases hpq : pre[j] with
        | bx kp etp csp =>
          rw [hpq] at hfo hpj
          cases old with
          | bx k2 et2 cs2 =>
            subst ho
            obtain ⟨b, e, us, h1, h2, h3, h4, h5, h6, h7⟩ := hoo
            refine ⟨b, e, us, by rw [eb]; exact h1, h2, by simpa using h3, h4, fun m u s hu hs => ?_, h6, fun c hc => ?_, h7.2⟩
            · rw [List.getElem?_map] at hs
              cases hcs : cs[m]? with
              | none => simp [hcs] at hs
              | some s0 => simp [hcs] at hs; subst hs; exact rn_ (h5 m u s0 hu hcs)
            · obtain ⟨b2, e2, us2, o1, o2, o3, o4, o5, o6, o7⟩ := h.inv.ob i _ hold
              have h8 := hF.box j kp etp csp hpj
              have h9 : (calleeG g ids).blk j = g.blk i := by simp [calleeG, hj]
              rw [h9, o1, h1] at h8
              injection h8 with h8
              rw [h8]; exact o7.1 c hc
          | _ => simp [Ob.forget, Ob.ren] at hfo
        | _ => rw [hpq] at hs; cases hs
      | buf mu e sz xs =>
        have ho : Ob.buf mu e sz xs = o := by cases old <;> exact ho
        subst ho
        obtain ⟨h1, h2, h3, h4, h5⟩ := hoo
        exact ⟨by rw [es]; exact h1, h2, by rw [ec]; exact h3, by rw [ec]; exact h4, by rw [eb, ec]; exact h5⟩
      | iter s p =>
        have ho : Ob.iter s p = o := by cases old <;> exact ho
        subst ho
        obtain ⟨b, h1, h2, h3⟩ := hoo; exact ⟨b, by rw [eb]; exact h1, h2, h3⟩
      | gone =>
        have ho : Ob.gone = o := by cases old <;> exact ho
        subst ho; trivial
    · rw [setAll_out _ _ _ i hm, wipeη_get] at ho
      cases hq : η[i]? with
      | none => simp [hq] at ho
      | some q =>
        simp [hq] at ho; subst ho
        have hoo := h.inv.ob i q hq
        obtain ⟨eb, ec, es⟩ := e_out i hm
        have hh : ∀ b, g.blk i = some b → w'.heap[b]? = w.heap[b]? ∧ ∀ o, g2.St b o ↔ g.St b o := by
          intro b hb
          have hf := hforeign i b hm hb
          refine ⟨hF.heap b (h.inv.lt i b hb) hf, fun o => ⟨fun ho => ?_, fun ho => kp.sub b o ho⟩⟩
          rcases hF.new b o ho with h1 | h1 | ⟨j, h1⟩
          · exact h1
          · have := h.inv.lt i b hb; omega
          · exact absurd h1 (hf j)
        cases q with
        | bx k et cs =>
          obtain ⟨b, e, us, h1, h2, h3, h4, h5, h6, h7⟩ := hoo
          refine ⟨b, e, us, by rw [eb]; exact h1, (hh b h1).1.trans h2, by simpa using h3, h4, fun m u s hu hs => ?_, fun o ho => h6 o (((hh b h1).2 o).1 ho), h7⟩
          rw [List.getElem?_map] at hs
          cases hcs : cs[m]? with
          | none => simp [hcs] at hs
          | some s0 => simp [hcs] at hs; subst hs; exact rw_ (h5 m u s0 hu hcs)
        | buf mu e sz xs =>
          obtain ⟨h1, h2, h3, h4, h5⟩ := hoo
          refine ⟨by rw [es]; exact h1, h2, by rw [ec]; exact h3, by rw [ec]; exact h4, ?_⟩
          rcases h5 with h5 | ⟨b, us, h5, h6, h7, h8, h9, h10⟩
          · exact .inl (by rw [eb, ec]; exact h5)
          · exact .inr ⟨b, us, by rw [eb]; exact h5, (hh b h5).1.trans h6, by rw [ec]; exact h7, h8, fun m u d hu hd => (h9 m u d hu hd).keep kp, fun o => ((hh b h5).2 o).trans (h10 o)⟩
        | iter s p =>
          obtain ⟨b, h1, h2, h3⟩ := hoo
          exact ⟨b, by rw [eb]; exact h1, (hh b h1).1.trans h2, fun o ho => h3 o (((hh b h1).2 o).1 ho)⟩
        | gone => trivial
  · refine (hF.heap k (Nat.lt_of_lt_of_le hk h.wsize) fun j hj => ?_).trans (h.heap k hk hx)
    rcases hown j k hj with h1 | h1
    · omega
    · exact hx h1
  · rcases hF.new b o hb with h1 | h1 | ⟨j, h1⟩
    · exact h.new b o h1
    · exact .inr (.inl (Nat.le_trans h.wsize h1))
    · exact .inr (hown j b h1)
  · rcases hblk i b hb with ⟨_, h1⟩ | ⟨j, _, h1⟩
    · exact h.own i b h1 hr
    · rcases hF.own j b h1 with h2 | ⟨k, h2⟩
      · exact .inl (Nat.le_trans h.wsize h2)
      · exact hown k b h2
  · rw [get_wipe]; exact rw_ (h.rep t)
end

/-- the arguments, as the callee names them -/
def SArgs (σ : Sl) (ids : List Nat) : List Operand → List SV → Prop
  | [], [] => True
  | x :: xs, s :: ss => oval σ x = s.ren ids ∧ SArgs σ ids xs ss
  | _, _ => False
theorem SArgs_nil {σ : Sl} {ids : List Nat} : SArgs σ ids [] [] := trivial
theorem SArgs_cons {σ : Sl} {ids : List Nat} {x : Operand} {xs : List Operand} {s : SV} {ss : List SV} (h : oval σ x = s.ren ids) (r : SArgs σ ids xs ss) : SArgs σ ids (x :: xs) (s :: ss) := ⟨h, r⟩
theorem SArgs.rep {C : Ctx} {g : Gh} {σ : Sl} {η : List Ob} {a : Act} {w : World} (ha : AbsG C g σ η a w) {ids : List Nat} : ∀ (xs : List Operand) (ss : List SV), SArgs σ ids xs ss → xs.length = ss.length ∧ ∀ (j : Nat) v s, (xs.map a.eval)[j]? = some v → ss[j]? = some s → RepS g w v (s.ren ids)
  | [], [], _ => ⟨rfl, fun j v s h => by simp at h⟩
  | x :: xs, s :: ss, ⟨h1, h2⟩ => by
    obtain ⟨e1, e2⟩ := SArgs.rep ha xs ss h2
    refine ⟨by simp [e1], fun j v s' hv hs => ?_⟩
    match j with
    | 0 =>
      simp at hv hs; subst hv; subst hs
      have := ha.eval x; rw [h1] at this; exact this
    | j + 1 => exact e2 j v s' (by simpa using hv) (by simpa using hs)
  | [], _ :: _, h => h.elim
  | _ :: _, [], h => h.elim

section
variable {C : Ctx} {ops : Array Oper} {rest : List Oper} {K : Sl → List Ob → Prop} {σ : Sl} {η : List Ob} {d : Nat} {ty : TypeId} {pos : String} {after : Array Edge} {gd : Option (Nat × Bool)}
/-- the call of a function by its name -/
theorem aMCall {f : FuncId} {args : List Operand} {ts : Array TypeId} {as : List SV} {pre post : List Ob} {res : SV} (ids : List Nat) (hb : hasBody C.P f = true) (hc : MCall C.P f as pre res post) (ha : SArgs σ ids args as) (hp : Picks η ids pre) (hd : Nat.blt d C.N = true)
    (hn : ids.Nodup) (hlen : ids.length = pre.length) (hu : unlaid pre = true) (hbl : pre.all (Ob.below pre.length) = true) (hba : as.all (SV.below pre.length) = true) (hk : sameBoxes pre post = true) (hro : ids.all (fun i => Nat.ble C.ro i) = true)
    (h : alex C false ops rest K ((d, res.ren ids) :: wipeσ (bufsOf ids pre) ids σ) (setAll (wipeη (bufsOf ids pre) ids η) ids (post.map (Ob.ren ids)))) :
    astep C false ops ⟨some d, .call ⟨.value (.func f), args.toArray, ts⟩, ty, pos, after, gd⟩ rest K σ η := by
  intro Q hQ a w ⟨g, hg⟩ K' hK'
  obtain ⟨e1, e2⟩ := ha.rep hg
  unfold Oper.wp
  have hrun : (execOp a.eval ⟨some d, .call ⟨.value (.func f), args.toArray, ts⟩, ty, pos, after, gd⟩).run C.P w = .ok (.enter f (args.map a.eval).toArray) w := by
    simp only [execOp, resolve, Act.eval, Deferred.ofValue, invoke, Sem.run_bind, Sem.run_pure, Result.andThen_ok, List.map_toArray, Array.empty_append, Array.append_empty]
    exact hasBody_run hb
  rw [hrun, Oper.upon_enter]
  have hr := RepSs.callee (g := g) (w := w) hlen (args.map a.eval) as e2 (by simp [e1]) hba
  refine (hc (calleeG g ids) w _ (hg.inv.callee hn hlen hp hu hbl) hr).mono fun e w' ⟨v, g', he, hI, hres, hF⟩ => ?_
  subst he
  obtain ⟨g2, h1, h2⟩ := hg.called hn hlen hp hk hro hI hres hF
  exact hK' _ _ (h Q hQ _ w' ⟨g2, h1.put (d := some d) hd h2⟩)
end
end Go.Sx
/- Whole numbers below 2^53 as float64: their words, sums and order are exact. Nothing here speaks of one program. -/
namespace Go.Fl
open Ieee
def Fd (n : Nat) : Nat := double.nearest false n 0
theorem gap_cut (neg : Bool) (n drop : Nat) (h : drop ≤ n.log2 + 2) (hd : 2 ^ drop ∣ n) : Toward.even.cut neg n drop = n / 2 ^ drop := by
  have hr : n % 2 ^ drop = 0 := Nat.mod_eq_zero_of_dvd hd
  have hp : 0 < 2 ^ drop := Nat.two_pow_pos _
  unfold Toward.cut
  rw [Nat.min_eq_left h, Nat.one_shiftLeft]
  simp only [hr, Nat.mul_zero]
  have h2 : (2 ^ drop == 0) = false := by rw [beq_eq_false_iff_ne]; omega
  simp [h2]
theorem log2_mul (n k : Nat) (h : n ≠ 0) : (n * 2 ^ k).log2 = n.log2 + k := by
  refine (Nat.log2_eq_iff (by have := Nat.two_pow_pos k; exact Nat.mul_ne_zero h (by omega))).2 ⟨?_, ?_⟩
  · rw [Nat.pow_add]; exact Nat.mul_le_mul_right _ (Nat.log2_self_le h)
  · rw [show n.log2 + k + 1 = (n.log2 + 1) + k by omega, Nat.pow_add]
    exact Nat.mul_lt_mul_of_pos_right Nat.lt_log2_self (Nat.two_pow_pos k)
theorem log2_lt {n : Nat} (h0 : n ≠ 0) (h : n < 2 ^ 53) : n.log2 ≤ 52 := by
  have := (Nat.log2_lt h0).2 h; omega
theorem lp : double.leastPlace = -1074 := by decide
theorem word_min (x m b52 c d : Nat) (h1 : x ≤ c) (h2 : m < d) (h3 : c + d ≤ b52 := by decide) : double.word false (min (x + m) b52) = x + m := by
  show min (x + m) b52 = x + m
  omega
/-- the word of n -/
theorem word_of (n k : Nat) (h0 : n ≠ 0) (h : n < 2 ^ 53) : double.nearest false (n * 2 ^ k) (-(k : Int)) = (1022 + n.log2) * 2 ^ 52 + n * 2 ^ (52 - n.log2) := by
  have hl := log2_lt h0 h
  have hp := Nat.two_pow_pos k
  have hm : n * 2 ^ k ≠ 0 := Nat.mul_ne_zero h0 (by omega)
  unfold Format.nearest
  rw [if_neg hm, log2_mul n k h0, lp]
  have e1 : max (-(k : Int) + ((n.log2 + k : Nat) : Int) - (double.fractionBits : Nat)) (-1074) = (n.log2 : Int) - 52 := by
    show max (-(k : Int) + ((n.log2 + k : Nat) : Int) - (52 : Nat)) (-1074) = (n.log2 : Int) - 52
    omega
  simp only [e1]
  have e2 : Toward.even.cut false ((n * 2 ^ k) <<< (-(k : Int) - ((n.log2 : Int) - 52)).toNat) (((n.log2 : Int) - 52) - (-(k : Int))).toNat = n * 2 ^ (52 - n.log2) := by
    rcases Nat.le_total k (52 - n.log2) with hk | hk
    · have a1 : (-(k : Int) - ((n.log2 : Int) - 52)).toNat = 52 - n.log2 - k := by omega
      have a2 : (((n.log2 : Int) - 52) - (-(k : Int))).toNat = 0 := by omega
      rw [a1, a2, gap_cut _ _ _ (Nat.zero_le _) (by simp), Nat.shiftLeft_eq, Nat.mul_assoc, ← Nat.pow_add, show k + (52 - n.log2 - k) = 52 - n.log2 by omega]
      simp
    · have a1 : (-(k : Int) - ((n.log2 : Int) - 52)).toNat = 0 := by omega
      obtain ⟨j, rfl⟩ : ∃ j, k = (52 - n.log2) + j := ⟨k - (52 - n.log2), by omega⟩
      have a2 : (((n.log2 : Int) - 52) - (-(((52 - n.log2) + j : Nat) : Int))).toNat = j := by omega
      rw [a1, a2, Nat.shiftLeft_zero, gap_cut _ _ _ (by rw [log2_mul n _ h0]; omega) (by rw [Nat.pow_add, ← Nat.mul_assoc]; exact Nat.dvd_mul_left _ _)]
      rw [Nat.pow_add, ← Nat.mul_assoc, Nat.mul_div_cancel _ (Nat.two_pow_pos j)]
  rw [e2]
  have e3 : ((n.log2 : Int) - 52 - -1074).toNat = 1022 + n.log2 := by omega
  rw [e3]
  have e4 : double.binade = 2 ^ 52 := by decide
  have e5 : double.infRung = 2047 * 2 ^ 52 := by decide
  have e6 : n * 2 ^ (52 - n.log2) < 2 ^ 53 := by
    have := Nat.mul_lt_mul_of_pos_right (Nat.lt_log2_self (n := n)) (Nat.two_pow_pos (52 - n.log2))
    rwa [← Nat.pow_add, show n.log2 + 1 + (52 - n.log2) = 53 by omega] at this
  rw [e4, e5]
  have e7 : (1022 + n.log2) * 2 ^ 52 ≤ 1074 * 2 ^ 52 := Nat.mul_le_mul_right _ (by omega)
  exact word_min _ _ _ _ _ e7 e6 (by decide)
theorem near_scale (n k : Nat) (h : n < 2 ^ 53) : double.nearest false (n * 2 ^ k) (-(k : Int)) = Fd n := by
  by_cases h0 : n = 0
  · subst h0; simp [Fd, Format.nearest]
  · have h1 := word_of n 0 h0 h
    rw [word_of n k h0 h, ← h1, Fd]; simp
theorem read_0 : ∃ i : Nat, double.read (Fd 0) = .number false (0 * 2 ^ i) (-(i : Int)) := by
  refine ⟨(-double.leastPlace).toNat, ?_⟩
  rw [show Fd 0 = 0 by simp [Fd, Format.nearest, Format.word], Nat.zero_mul, lp]; decide
theorem read_Fd (n : Nat) (h : n < 2 ^ 53) : ∃ i : Nat, double.read (Fd n) = .number false (n * 2 ^ i) (-(i : Int)) := by
  by_cases h0 : n = 0
  · subst h0; exact read_0
  · have hl := log2_lt h0 h
    refine ⟨52 - n.log2, ?_⟩
    have hw := word_of n 0 h0 h
    simp only [Nat.pow_zero, Nat.mul_one, Int.natCast_zero, Int.neg_zero] at hw
    have e6 : n * 2 ^ (52 - n.log2) < 2 ^ 53 := by
      have := Nat.mul_lt_mul_of_pos_right (Nat.lt_log2_self (n := n)) (Nat.two_pow_pos (52 - n.log2))
      rwa [← Nat.pow_add, show n.log2 + 1 + (52 - n.log2) = 53 by omega] at this
    have e7 : 2 ^ 52 ≤ n * 2 ^ (52 - n.log2) := by
      have := Nat.mul_le_mul_right (2 ^ (52 - n.log2)) (Nat.log2_self_le h0)
      rwa [← Nat.pow_add, show n.log2 + (52 - n.log2) = 52 by omega] at this
    rw [Fd, hw]
    generalize n * 2 ^ (52 - n.log2) = m at *
    obtain ⟨r, rfl⟩ : ∃ r, m = 2 ^ 52 + r := ⟨m - 2 ^ 52, by omega⟩
    have hr : r < 2 ^ 52 := by omega
    have e8 : (1022 + n.log2) * 2 ^ 52 + (2 ^ 52 + r) = (1023 + n.log2) * 2 ^ 52 + r := by omega
    rw [e8]
    have s1 : double.signWeight = 2 ^ 63 := by decide
    have s2 : double.binade = 2 ^ 52 := by decide
    have s3 : double.infRung = 2047 * 2 ^ 52 := by decide
    have b1 : (1023 + n.log2) * 2 ^ 52 ≤ 1075 * 2 ^ 52 := Nat.mul_le_mul_right _ (by omega)
    have b2 : 1023 * 2 ^ 52 ≤ (1023 + n.log2) * 2 ^ 52 := Nat.mul_le_mul_right _ (by omega)
    unfold Format.read
    rw [s1, s2, s3, lp]
    have q1 : ((1023 + n.log2) * 2 ^ 52 + r) / 2 ^ 63 = 0 := Nat.div_eq_of_lt (by omega)
    have q2 : ((1023 + n.log2) * 2 ^ 52 + r) % 2 ^ 63 = (1023 + n.log2) * 2 ^ 52 + r := Nat.mod_eq_of_lt (by omega)
    have q3 : ((1023 + n.log2) * 2 ^ 52 + r) % 2 ^ 52 = r := by rw [Nat.add_comm, Nat.add_mul_mod_self_right]; exact Nat.mod_eq_of_lt hr
    have q4 : ((1023 + n.log2) * 2 ^ 52 + r) / 2 ^ 52 = 1023 + n.log2 := by rw [Nat.add_comm, Nat.add_mul_div_right _ _ (Nat.two_pow_pos 52), Nat.div_eq_of_lt hr]; omega
    simp only [q1, q2, q3, q4]
    rw [if_neg (by omega), if_pos (by omega)]
    congr 1
    omega
theorem signed_sh (a i : Nat) (base : Int) (h : base ≤ -(i : Int)) : signed false (a * 2 ^ i) (-(i : Int) - base).toNat = (a : Int) * 2 ^ (-base).toNat := by
  unfold signed
  rw [if_neg (by decide), Nat.shiftLeft_eq, Nat.mul_assoc, ← Nat.pow_add, show i + (-(i : Int) - base).toNat = (-base).toNat by omega]
  simp
theorem add_Fd (a b : Nat) (h : a + b < 2 ^ 53) : double.add (Fd a) (Fd b) = some (Fd (a + b)) := by
  obtain ⟨i, hi⟩ := read_Fd a (by omega)
  obtain ⟨j, hj⟩ := read_Fd b (by omega)
  unfold Format.add
  rw [hi, hj]
  simp only [Datum.sum, Option.map_some]
  generalize hb : min (-(i : Int)) (-(j : Int)) = base
  rw [signed_sh a i base (by omega), signed_sh b j base (by omega), ← Int.add_mul]
  obtain ⟨k, rfl⟩ : ∃ k : Nat, base = -(k : Int) := ⟨(-base).toNat, by omega⟩
  have e1 : (-(-(k : Int))).toNat = k := by omega
  rw [e1]
  have e2 : ((a : Int) + b) * 2 ^ k = (((a + b) * 2 ^ k : Nat) : Int) := by simp
  rw [e2]
  have e3 : (if (((a + b) * 2 ^ k : Nat) : Int) = 0 then false && false else decide ((((a + b) * 2 ^ k : Nat) : Int) < 0)) = false := by
    split
    · rfl
    · exact decide_eq_false (by omega)
  rw [e3, Int.natAbs_natCast]
  show some (double.nearest false _ _) = _
  rw [near_scale _ _ h]
theorem order_Fd (a b : Nat) (ha : a < 2 ^ 53) (hb : b < 2 ^ 53) : double.order (Fd a) (Fd b) = some (compare (a : Int) (b : Int)) := by
  obtain ⟨i, hi⟩ := read_Fd a ha
  obtain ⟨j, hj⟩ := read_Fd b hb
  unfold Format.order
  rw [hi, hj]
  simp only [Datum.order]
  generalize hbs : min (-(i : Int)) (-(j : Int)) = base
  rw [signed_sh a i base (by omega), signed_sh b j base (by omega)]
  have hp : (0 : Int) < 2 ^ (-base).toNat := Int.pow_pos (by decide)
  congr 1
  rw [Int.compare_eq_ite_lt, Int.compare_eq_ite_lt]
  simp only [Int.mul_lt_mul_right hp]
end Go.Fl
/- The engine: rows of bytes appended to from a text and read as a text; float64 and complex128 at whole numbers. -/
namespace Go.Sx
open Go.RowKit Go.Lib

/-! ### append of a text -/
theorem run_append_str {P : Program} (w : World) (t u ty e : TypeId) (i : TypeInfo) (ht : P.underlying t = some (.slice e)) (hut : P.underlying u = some .string) (hi : P.info? e = some i) (hz : i.zero = some (.int .u8 0)) (hs1 : i.size = 1) (hby : i.bytes = 1)
    (ob : Option Nat) (n cap : Nat) (us : Array Value) (hob : (ob = none ∧ cap = 0 ∧ n = 0) ∨ ∃ b, ob = some b ∧ w.heap[b]? = some (.cells us e (0, 0)) ∧ us.size = cap * 1 ∧ n ≤ cap)
    (s : ByteArray) (hbytes : n + s.size ≤ 140737488355328) (hcm : cap ≤ maxLen) : AppRun P #[t, u] ty e 1 w ob n cap us (.string s) s.size (strCells s) := by
  have hnl := strCells_length s
  have h1 := strCells_oneCell s
  have hzs : (Value.int IntKind.u8 0).cells.size = 1 := rfl
  have h63 : n + s.size ≤ maxLen := by simp only [maxLen]; omega
  unfold AppRun
  by_cases hm : s.size = 0
  · have hn : strCells s = [] := List.eq_nil_of_length_eq_zero (by rw [hnl]; exact hm)
    have hf := run_firstCells_string (P := P) w 1 s
    rw [hm] at hf
    rcases hob with ⟨rfl, rfl, rfl⟩ | ⟨b, rfl, hh, hsz, hnc⟩
    · refine ⟨none, 0, w, ?_, by omega, by simp [maxLen], rfl, rfl, rfl, Nat.le_refl _, .inl ⟨rfl, rfl, by omega, rfl, rfl⟩⟩
      simp [Builtin.append_, run_underlying ht, run_underlying hut, sizeOf, typeInfo, hi, hs1, Builtin.lenOf, hm, hf]
    · have hr := run_append_room_string (P := P) w t u ty e i ht hut hi hs1 b n cap us hh s (by omega) (by omega)
      have hub : b < w.heap.size := (Array.getElem?_eq_some_iff.1 hh).1
      refine ⟨some b, cap, _, hr, by omega, hcm, rfl, rfl, rfl, by simp, .inr ⟨b, _, rfl, setRow_heap w b us _ e (0, 0) hh, ?_, by simpa using hub, fun j hj => ?_, fun j hj => by omega, .inl ⟨rfl, fun k hk => setRow_other w b k _ hk⟩⟩⟩
      · simp only [List.size_toArray, List.length_append, List.length_take, List.length_drop, Array.length_toList]; omega
      · simp only [List.getElem?_toArray]
        rw [List.append_assoc, List.getElem?_append_left (by simp; omega), List.getElem?_take, if_pos (by omega)]; simp
  · rcases hob with ⟨rfl, rfl, rfl⟩ | ⟨b, rfl, hh, hsz, hnc⟩
    · have hr := run_append_nil_string (P := P) w t u ty e i (.int .u8 0) ht hut hi hz s (by omega) (by omega) (by rw [hby]; omega)
      have e1 : (s.data.map fun b => Value.int .u8 b.toNat) = (strCells s).toArray := by
        apply Array.ext'; simp [strCells]
      rw [e1] at hr
      have hge := grownCap_ge w s.size 0 e
      refine ⟨some w.heap.size, grownCap w s.size 0 e, w.drew.alloc (.cells ((strCells s).toArray ++ Builtin.zeroCells (Value.int .u8 0).cells (grownCap w s.size 0 e - s.size)) e), by simpa using hr, by omega, grownCap_le_maxLen w s.size 0 e (by omega), rfl, rfl, rfl, by simp, .inr ⟨w.heap.size, _, rfl, _root_.Go.heap_alloc_new w.drew _, ?_, by simp, fun j hj => by omega, fun j hj => ?_, .inr ⟨Nat.le_refl _, fun k hk => Below.heap_alloc w.drew _ k hk⟩⟩⟩
      · simp only [Array.size_append, List.size_toArray, size_zeroCells, hzs, hnl]; omega
      · rw [Array.getElem?_append_left (by simp; omega)]
        simp
    · by_cases hroom : n + s.size ≤ cap
      · have hr := run_append_room_string (P := P) w t u ty e i ht hut hi hs1 b n cap us hh s hroom (by omega)
        have hub : b < w.heap.size := (Array.getElem?_eq_some_iff.1 hh).1
        refine ⟨some b, cap, _, hr, hroom, hcm, rfl, rfl, rfl, by simp, .inr ⟨b, _, rfl, setRow_heap w b us _ e (0, 0) hh, ?_, by simpa using hub, fun j hj => ?_, fun j hj => ?_, .inl ⟨rfl, fun k hk => setRow_other w b k _ hk⟩⟩⟩
        · simp only [List.size_toArray, List.length_append, List.length_take, List.length_drop, Array.length_toList]; omega
        · simp only [List.getElem?_toArray]
          rw [List.append_assoc, List.getElem?_append_left (by simp; omega), List.getElem?_take, if_pos (by omega)]; simp
        · simp only [List.getElem?_toArray]
          have e1 : (us.toList.take n).length = n := by rw [List.length_take, Array.length_toList]; omega
          rw [List.append_assoc, Nat.mul_one, List.getElem?_append_right (by omega), e1, Nat.add_sub_cancel_left, List.getElem?_append_left (by omega)]
      · have holds : ∀ j v, (us.toList.take n)[j]? = some v → w.cell? ((⟨b, 0, none⟩ : Addr).add j) = some v := by
          intro j v hj
          rw [List.getElem?_take] at hj
          split at hj
          · rw [Addr.add_lit, Nat.zero_add, cell_of_row w b j us e (0, 0) hh]; simpa using hj
          · cases hj
        have hr := run_append_grow_string (P := P) w t u ty e i (.int .u8 0) ht hut hi hz ⟨b, 0, none⟩ n cap (us.toList.take n) (by rw [hs1, List.length_take, Array.length_toList]; omega) holds s (by omega) (by omega) (growslice_fits (by omega) (by rw [hby]; omega))
        have hge := grownCap_ge w (n + s.size) cap e
        have e1 : (us.toList.take n).length = n := by rw [List.length_take, Array.length_toList]; omega
        refine ⟨some w.heap.size, grownCap w (n + s.size) cap e, _, hr, hge, grownCap_le_maxLen w (n + s.size) cap e h63, rfl, rfl, rfl, by simp, .inr ⟨w.heap.size, _, rfl, _root_.Go.heap_alloc_new w.drew _, ?_, by simp, fun j hj => ?_, fun j hj => ?_, .inr ⟨Nat.le_refl _, fun k hk => Below.heap_alloc w.drew _ k hk⟩⟩⟩
        · simp only [Array.size_append, List.size_toArray, size_zeroCells, hzs, hnl, e1]; omega
        · rw [Array.append_assoc, Array.getElem?_append_left (by simp; omega)]
          have hj' : j < n := by omega
          simp [hj']
        · rw [Array.append_assoc, Nat.mul_one, Array.getElem?_append_right (by simp; omega)]
          rw [List.size_toArray, e1, Nat.add_sub_cancel_left, Array.getElem?_append_left (by simp; omega)]
          simp

/-- bytes, as a row's elements -/
def bys (l : List UInt8) : List D := l.map fun b => .val (.int .u8 b.toNat)
theorem bys_flats (l : List UInt8) : flats (bys l) = bys l := by
  induction l with
  | nil => rfl
  | cons c l ih => simp only [bys, List.map_cons, flats, List.flatMap_cons, D.flat] at ih ⊢; rw [ih]; rfl
theorem bys_len (l : List UInt8) : (bys l).length = l.length := by simp [bys]
theorem bys_app (a b : List UInt8) : bys a ++ bys b = bys (a ++ b) := by simp [bys]
theorem bys_sz (l : List UInt8) : ∀ d ∈ bys l, d.flat.length = 1 := fun d hd => by obtain ⟨b, _, rfl⟩ := List.mem_map.1 hd; rfl

/-- what a type of bytes is -/
def byteTy (P : Program) (e : TypeId) : Bool :=
  match P.info? e with
  | some i => (match i.zero with | some (.int .u8 0) => true | _ => false) && Nat.beq i.size 1 && Nat.beq i.bytes 1
  | none => false
theorem byteTy_some {P : Program} {e : TypeId} (h : byteTy P e = true) : ∃ i, P.info? e = some i ∧ i.zero = some (.int .u8 0) ∧ i.size = 1 ∧ i.bytes = 1 := by
  unfold byteTy at h
  split at h
  · rename_i i hi
    simp only [Bool.and_eq_true] at h
    obtain ⟨⟨h1, h2⟩, h3⟩ := h
    split at h1
    · rename_i hz
      exact ⟨i, hi, hz, Nat.eq_of_beq_eq_true h2, Nat.eq_of_beq_eq_true h3⟩
    · cases h1
  · cases h

section
variable {C : Ctx} {ops : Array Oper} {rest : List Oper} {K : Sl → List Ob → Prop} {σ : Sl} {η : List Ob} {d : Nat} {ty : TypeId} {pos : String} {after : Array Edge} {gd : Option (Nat × Bool)} {t u : TypeId} {x y : Operand}
/-- append(b, s...) -/
theorem aAppS {id n e : Nat} {mu : Bool} {l m : List UInt8} (hx : oval σ x = .buf id n) (ho : η[id]? = some (.buf mu e 1 (bys l))) (hn : n = l.length) (hy : oval σ y = .d (str m)) (ht : C.P.underlying t = some (.slice e)) (hu : C.P.underlying u = some .string) (he : byteTy C.P e = true)
    (hd : Nat.blt d C.N = true) (hro : Nat.ble C.ro id = true) (hlen : l.length + m.length ≤ 140737488355328)
    (h : alex C false ops rest K ((d, .buf id (l ++ m).length) :: killσ id σ) ((killη id η).set id (.buf mu e 1 (bys (l ++ m))))) :
    astep C false ops ⟨some d, .call ⟨.builtin .append, #[x, y], #[t, u]⟩, ty, pos, after, gd⟩ rest K σ η := by
  subst hn
  obtain ⟨i, hi, hz, hs1, hby⟩ := byteTy_some he
  refine aAppG (ys := bys m) hx ho (by rw [bys_len]; exact Nat.le_refl _) (fun _ => (bys_len l).symm) (bys_sz m) hd hro (fun g a w us ha hcm hus => ?_) (by
    have e1 : (bys l).take l.length = bys l := List.take_of_length_le (by rw [bys_len]; exact Nat.le_refl _)
    rw [e1, bys_app, bys_len, ← List.length_append]; exact h)
  have hyr := ha.eval y; rw [hy] at hyr
  have hyv := RepD.val_eq hyr
  have hr := run_append_str (P := C.P) w t u ty e i ht hu hi hz hs1 hby (g.blk id) l.length (g.cap id) us hus ⟨m.toArray⟩ (by rw [str_size]; exact hlen) hcm
  rw [str_size] at hr
  refine ⟨strCells ⟨m.toArray⟩, by rw [strCells_length, str_size, bys_len, Nat.mul_one], strCells_oneCell _, fun j v dd hv hd => ?_, by rw [hyv, bys_len]; exact hr⟩
  rw [bys_flats] at hd
  simp only [strCells, bys, List.getElem?_map] at hv hd
  cases hm : m[j]? with
  | none => simp [hm] at hv
  | some c => simp [hm] at hv hd; subst hv; subst hd; exact .val _

/-! ### a row of bytes as a text -/
/-- unsafe.SliceData -/
theorem aSliceData {id n e : Nat} {l : List UInt8} {te : TypeId} (hx : oval σ x = .buf id n) (ho : η[id]? = some (.buf true e 1 (bys l))) (hn : n = l.length) (hp : C.P.underlying ty = some (.pointer te)) (hd : Nat.blt d C.N = true)
    (h1 : 0 < l.length → alex C false ops rest K ((d, .bptr id 0 0) :: σ) η) (h0 : l.length = 0 → ∀ p, alex C false ops rest K ((d, .d (.val (.pointer p))) :: σ) η) :
    astep C false ops ⟨some d, .call ⟨.builtin .unsafeSliceData, #[x], #[t]⟩, ty, pos, after, gd⟩ rest K σ η := by
  subst hn
  intro Q hQ a w ⟨g, ha⟩ K' hK'
  have hxr := ha.eval x; rw [hx] at hxr
  obtain ⟨hidn, hxv⟩ := hxr
  obtain ⟨o1, o2, o3, o4, o5⟩ := ha.inv.ob id _ ho
  rw [bys_len] at o4
  have fin : ∀ (v : Value) (w' : World) (s : SV), (Builtin.unsafeSliceData_ #[t] ty #[a.eval x]).run C.P w = .ok v w' → Abs C ((d, s) :: σ) η (a.put (some d) v) w' → alex C false ops rest K ((d, s) :: σ) η →
      (⟨some d, .call ⟨.builtin .unsafeSliceData, #[x], #[t]⟩, ty, pos, after, gd⟩ : Oper).wp C.P a w K' Q := by
    intro v w' s hr hab hal
    unfold Oper.wp
    have : (execOp a.eval ⟨some d, .call ⟨.builtin .unsafeSliceData, #[x], #[t]⟩, ty, pos, after, gd⟩).run C.P w = .ok (.value v) w' := by
      simp only [execOp, resolve, invoke, builtin, Sem.run_bind, Sem.run_pure, Result.andThen_ok, List.map_toArray, List.map_cons, List.map_nil, hr]
    rw [this]
    exact hK' _ _ (hal Q hQ _ _ hab)
  rcases o5 with ⟨hb, hc⟩ | ⟨b, us, hb, hh, hsz, _, _, _⟩
  · have hl : l.length = 0 := by omega
    rw [hb] at hxv
    refine fin (.pointer none) w (.d (.val (.pointer none))) (by rw [hxv]; exact run_unsafeSliceData_nil w _ _ _ _) ⟨g, ha.put (d := some d) hd (.val _)⟩ (h0 hl none)
  · rw [hb] at hxv
    by_cases hcap : g.cap id = 0
    · have hl : l.length = 0 := by omega
      rw [hcap, hl] at hxv
      have hsh : w.shape? b = some (e, us.size) := by unfold World.shape?; rw [hh]
      have hr := run_unsafeSliceData_zero (P := C.P) w #[t] ty te hp ⟨b, 0, none⟩ 0 (e, us.size) hsh
      have hgr : Grow g w g (w.alloc (.view ⟨b, 0, none⟩ te)) := ⟨rfl, rfl, rfl, rfl, rfl, rfl, rfl, by simp, fun k hk => Below.heap_alloc w _ k hk, fun _ _ h => h, fun _ _ h => .inl h, fun b o hb => Nat.lt_of_lt_of_le (ha.inv.st b o hb) (by simp)⟩
      exact fin (.pointer (some ⟨w.heap.size, 0, none⟩)) _ (.d (.val (.pointer (some ⟨w.heap.size, 0, none⟩)))) (by rw [hxv]; exact hr) ⟨g, (ha.grow hgr).put (d := some d) hd (.val _)⟩ (h0 hl _)
    · have hr := run_unsafeSliceData_row (P := C.P) w #[t] ty ⟨b, 0, none⟩ l.length (g.cap id) hcap
      rcases Nat.eq_zero_or_pos l.length with hl | hl
      · exact fin (.pointer (some ⟨b, 0, none⟩)) w (.d (.val (.pointer (some ⟨b, 0, none⟩)))) (by rw [hxv]; exact hr) ⟨g, ha.put (d := some d) hd (.val _)⟩ (h0 hl _)
      · refine fin (.pointer (some ⟨b, 0, none⟩)) w (.bptr id 0 0) (by rw [hxv]; exact hr) ⟨g, ha.put (d := some d) hd ⟨hidn, b, hb, by simp⟩⟩ (h1 hl)

theorem freeze_heap (w : World) (b n k : Nat) (hk : k ≠ b) : (w.freeze ⟨b, 0, none⟩ n).heap[k]? = w.heap[k]? := by
  unfold World.freeze
  split
  · rfl
  · simp only [Array.getElem?_modify]; rw [if_neg (by omega)]
theorem freeze_size (w : World) (a : Addr) (n : Nat) : (w.freeze a n).heap.size = w.heap.size := by
  unfold World.freeze; split <;> simp
theorem freeze_os (w : World) (a : Addr) (n : Nat) : (w.freeze a n).os = w.os ∧ (w.freeze a n).tape = w.tape ∧ (w.freeze a n).output = w.output := by
  unfold World.freeze; split <;> exact ⟨rfl, rfl, rfl⟩

/-- an object is let go, and what lay in it may have turned -/
theorem AbsG.goneOb {g : Gh} {a : Act} {w w' : World} (ha : AbsG C g σ η a w) {id b : Nat} (hid : id < η.length) (hb : g.blk id = some b) (hro : C.ro ≤ id) (hst : ∀ o, ¬ g.St b o)
    (os : w'.os = w.os) (tape : w'.tape = w.tape) (output : w'.output = w.output) (size : w'.heap.size = w.heap.size) (heap : ∀ k, k ≠ b → w'.heap[k]? = w.heap[k]?) : AbsG C g σ (η.set id .gone) a w' := by
  have kp : Keep g.St w g.St w' := ⟨fun _ _ h => h, fun c o u hc hu => (World.cell?_of_block (a := ⟨c, o, none⟩) (heap c (fun e => hst o (e ▸ hc)))).trans hu, fun c hc => heap c (fun e => hst 0 (e ▸ hc 0))⟩
  refine ⟨ha.defers, ha.size, ⟨by rw [List.length_set]; exact ha.inv.n, fun i c hc => by rw [size]; exact ha.inv.lt i c hc, ha.inv.dead, ha.inv.inj, fun i o ho => ?_, fun c o hc => by rw [size]; exact ha.inv.st c o hc, ha.inv.gl.keep kp⟩, os.trans ha.os, tape.trans ha.tape, output.trans ha.output, by rw [size]; exact ha.wsize,
    fun k hk hx => ?_, ha.keep.trans kp, ha.new, ha.own, fun t => (ha.rep t).ext kp (fun _ _ => ⟨rfl, rfl, rfl⟩) (Nat.le_refl _)⟩
  · rw [List.getElem?_set] at ho
    split at ho
    · rename_i e; subst e
      try rw [if_pos hid] at ho
      injection ho with ho; subst ho; trivial
    · rename_i e
      exact (ha.inv.ob i o ho).ext kp (fun _ _ => ⟨rfl, rfl, rfl⟩) (Nat.le_refl _) (by rw [ha.inv.n]; exact (List.getElem?_eq_some_iff.1 ho).1) (fun c hc => ⟨heap c (fun h => e (ha.inv.inj id i b hb (h ▸ hc))), fun _ => Iff.rfl⟩)
  · rw [heap k (fun e => ?_)]
    · exact ha.heap k hk hx
    · subst e
      rcases ha.own id k hb hro with h2 | h2
      · omega
      · exact hx h2

/-- unsafe.String of a row of the call's own, which nobody writes any more -/
theorem aUStr {id e : Nat} {l : List UInt8} {pt it te : TypeId} (hx : oval σ x = .bptr id 0 0) (hy : oval σ y = .d (.val (.int .i64 (l.length : Int)))) (ho : η[id]? = some (.buf true e 1 (bys l))) (h0 : 0 < l.length) (hp : C.P.underlying pt = some (.pointer e)) (hc : C.P.cellsOf e = 1) (hd : Nat.blt d C.N = true) (hro : Nat.ble C.ro id = true)
    (h : alex C false ops rest K ((d, .d (str l)) :: σ) (η.set id .gone)) :
    astep C false ops ⟨some d, .call ⟨.builtin .unsafeString, #[x, y], #[pt, it]⟩, te, pos, after, gd⟩ rest K σ η := by
  refine estep (fun g a w ha => ?_) h
  have hxr := ha.eval x; rw [hx] at hxr
  obtain ⟨hidn, b, hb, hxv⟩ := hxr
  have hyv := RepD.val_eq (by have := ha.eval y; rw [hy] at this; exact this)
  obtain ⟨o1, o2, o3, o4, o5⟩ := ha.inv.ob id _ ho
  rcases o5 with ⟨q, _⟩ | ⟨b', us, q1, hh, hsz, _, hrep, hst⟩
  · rw [hb] at q; cases q
  · rw [hb] at q1; injection q1 with q1; subst q1
    rw [bys_len] at o4
    have hsh : w.shape? b = some (e, us.size) := by unfold World.shape?; rw [hh]
    have hcell : ∀ j x, l[j]? = some x → w.cell? ((⟨b, 0, none⟩ : Addr).add j) = some (.int .u8 x.toNat) := by
      intro j c hj
      have hjl := (List.getElem?_eq_some_iff.1 hj).1
      rw [Addr.add_lit, Nat.zero_add, cell_of_row w b j us e (0, 0) hh]
      have hu : us[j]? = some (us[j]'(by omega)) := Array.getElem?_eq_getElem (by omega)
      have := hrep j _ (.val (.int .u8 c.toNat)) hu (by rw [bys_flats, bys, List.getElem?_map, hj]; rfl)
      rw [hu, RepD.val_eq this]
    have hm : l.length ≤ 9223372036854775807 := by simp only [maxLen] at o3; omega
    have hr := run_unsafeString_row (P := C.P) w pt it te e hp hc b us.size hsh l (by intro hn; rw [hn] at h0; simp at h0) (by omega) hm hcell
    have hxv' : a.eval x = .pointer (some ⟨b, 0, none⟩) := by rw [hxv]; simp
    have hf := freeze_os w ⟨b, 0, none⟩ l.length
    refine ⟨.string ⟨l.toArray⟩, w.freeze ⟨b, 0, none⟩ l.length, ?_, g, (ha.goneOb (List.getElem?_eq_some_iff.1 ho).1 hb (Nat.le_of_ble_eq_true hro) (fun o hso => by have := (hst o).1 hso; cases this.1) hf.1 hf.2.1 hf.2.2 (freeze_size _ _ _) (fun k hk => freeze_heap w b _ k hk)).put (d := some d) hd (.val _)⟩
    simp only [execOp, resolve, invoke, builtin, Sem.run_bind, Sem.run_pure, Result.andThen_ok, List.map_toArray, List.map_cons, List.map_nil, hxv', hyv, hr]
end

section
variable {P : Program} {η : List Ob} {σ : Sl} {dst : Option Nat} {ty : TypeId} {pos : String} {after : Array Edge} {gd : Option (Nat × Bool)} {t yt : TypeId} {x y : Operand}
theorem Y_ustr0 {p : Option Addr} {ts : TypeId × TypeId} (hx : oval σ x = .d (.val (.pointer p))) (hy : oval σ y = .d (.val (.int .i64 0))) : Ylds P η σ ⟨dst, .call ⟨.builtin .unsafeString, #[x, y], #[ts.1, ts.2]⟩, ty, pos, after, gd⟩ (.d (str [])) := by
  refine Ylds.same fun g w a hi h => ⟨.string .empty, ?_, .val _⟩
  have h1 := h x (by simp [Op.operands, Call.operands]); rw [hx] at h1
  have h2 := h y (by simp [Op.operands, Call.operands]); rw [hy] at h2
  simp only [execOp, resolve, invoke, builtin, Sem.run_bind, Sem.run_pure, Result.andThen_ok, List.map_toArray, List.map_cons, List.map_nil, RepD.val_eq h1, RepD.val_eq h2, run_unsafeString_none]

/-! ### float64, complex128 -/
abbrev fl (n : Nat) : D := .val (.float .f64 (Fl.Fd n))
abbrev cx (a b : Nat) : D := .val (.complex .f64 (Fl.Fd a) (Fl.Fd b))
theorem Y_i2f {k : IntKind} {n : Nat} {src tdst : TypeId} (hx : oval σ x = .d (.val (.int k (n : Int)))) (hs : (P.underlying src).isSome = true) (hd : P.underlying tdst = some (.float .f64)) : Ylds P η σ ⟨dst, .convert src tdst x, ty, pos, after, gd⟩ (.d (fl n)) := by
  obtain ⟨ds, hs⟩ := Option.isSome_iff_exists.1 hs
  refine Ylds.same fun g w a hi h => ⟨.float .f64 (Fl.Fd n), ?_, .val _⟩
  have h1 := h x (by simp [Op.operands]); rw [hx] at h1
  have e : FloatKind.f64.nearest (n : Int) = Fl.Fd n := by
    have : decide ((n : Int) < 0) = false := decide_eq_false (by omega)
    show Ieee.double.write (.number (decide ((n : Int) < 0)) _ 0) = _
    rw [this]; rfl
  simp only [execOp, convert, RepD.val_eq h1, Sem.run_bind, run_underlying hs, run_underlying hd, Result.andThen_ok]
  cases ds <;> simp [Conv.intToFloat, e]
theorem Y_fadd {a b : Nat} (hx : oval σ x = .d (fl a)) (hy : oval σ y = .d (fl b)) (h : a + b < 2 ^ 53) : Ylds P η σ ⟨dst, .binOp .add t x y yt, ty, pos, after, gd⟩ (.d (fl (a + b))) :=
  Y_bin hx hy fun w => by
    have := run_float_arith (P := P) w .add t .f64 (Fl.Fd a) (Fl.Fd b) (Fl.Fd (a + b)) (Fl.add_Fd a b h)
    simp [eqGuard_add, this]
theorem Y_fleq {a b : Nat} (hx : oval σ x = .d (fl a)) (hy : oval σ y = .d (fl b)) (ha : a < 2 ^ 53) (hb : b < 2 ^ 53) : Ylds P η σ ⟨dst, .binOp .leq t x y yt, ty, pos, after, gd⟩ (.d (.val (.bool (decide (a ≤ b))))) :=
  Y_bin hx hy fun w => by
    have e : FloatKind.f64.format.order (Fl.Fd a) (Fl.Fd b) = some (compare (a : Int) (b : Int)) := Fl.order_Fd a b ha hb
    have e2 : (compare (a : Int) (b : Int) == Ordering.lt || compare (a : Int) (b : Int) == Ordering.eq) = decide (a ≤ b) := by
      rw [Int.compare_eq_ite_lt]
      by_cases h1 : a < b
      · have : (a : Int) < b := by omega
        rw [if_pos this, decide_eq_true (show a ≤ b by omega)]; rfl
      · have h2 : ¬ (a : Int) < b := by omega
        rw [if_neg h2]
        by_cases h3 : b < a
        · have : (b : Int) < a := by omega
          rw [if_pos this, decide_eq_false (show ¬ a ≤ b by omega)]; rfl
        · have : ¬ (b : Int) < a := by omega
          rw [if_neg this, decide_eq_true (show a ≤ b by omega)]; rfl
    simp [eqGuard, binOp, Op.floatCmp, e, e2]
theorem Y_complex {a b : Nat} {ts : Array TypeId} (hx : oval σ x = .d (fl a)) (hy : oval σ y = .d (fl b)) : Ylds P η σ ⟨dst, .call ⟨.builtin .complex, #[x, y], ts⟩, ty, pos, after, gd⟩ (.d (cx a b)) := by
  refine Ylds.same fun g w ac hi h => ⟨.complex .f64 (Fl.Fd a) (Fl.Fd b), ?_, .val _⟩
  have h1 := h x (by simp [Op.operands, Call.operands]); rw [hx] at h1
  have h2 := h y (by simp [Op.operands, Call.operands]); rw [hy] at h2
  have e : Builtin.complex_ ts ty #[.float .f64 (Fl.Fd a), .float .f64 (Fl.Fd b)] = pure (.complex .f64 (Fl.Fd a) (Fl.Fd b)) := rfl
  simp only [execOp, resolve, invoke, builtin, Sem.run_bind, Sem.run_pure, Result.andThen_ok, List.map_toArray, List.map_cons, List.map_nil, RepD.val_eq h1, RepD.val_eq h2, e]
theorem Y_real {a b : Nat} {ts : Array TypeId} (hx : oval σ x = .d (cx a b)) : Ylds P η σ ⟨dst, .call ⟨.builtin .real, #[x], ts⟩, ty, pos, after, gd⟩ (.d (fl a)) := by
  refine Ylds.same fun g w ac hi h => ⟨.float .f64 (Fl.Fd a), ?_, .val _⟩
  have h1 := h x (by simp [Op.operands, Call.operands]); rw [hx] at h1
  have e : Builtin.real_ ts ty #[.complex .f64 (Fl.Fd a) (Fl.Fd b)] = pure (.float .f64 (Fl.Fd a)) := rfl
  simp only [execOp, resolve, invoke, builtin, Sem.run_bind, Sem.run_pure, Result.andThen_ok, List.map_toArray, List.map_cons, List.map_nil, RepD.val_eq h1, e]
theorem Y_imag {a b : Nat} {ts : Array TypeId} (hx : oval σ x = .d (cx a b)) : Ylds P η σ ⟨dst, .call ⟨.builtin .imag, #[x], ts⟩, ty, pos, after, gd⟩ (.d (fl b)) := by
  refine Ylds.same fun g w ac hi h => ⟨.float .f64 (Fl.Fd b), ?_, .val _⟩
  have h1 := h x (by simp [Op.operands, Call.operands]); rw [hx] at h1
  have e : Builtin.imag_ ts ty #[.complex .f64 (Fl.Fd a) (Fl.Fd b)] = pure (.float .f64 (Fl.Fd b)) := rfl
  simp only [execOp, resolve, invoke, builtin, Sem.run_bind, Sem.run_pure, Result.andThen_ok, List.map_toArray, List.map_cons, List.map_nil, RepD.val_eq h1, e]
theorem Y_cadd {a b c d : Nat} (hx : oval σ x = .d (cx a b)) (hy : oval σ y = .d (cx c d)) (h1 : a + c < 2 ^ 53) (h2 : b + d < 2 ^ 53) : Ylds P η σ ⟨dst, .binOp .add t x y yt, ty, pos, after, gd⟩ (.d (cx (a + c) (b + d))) :=
  Y_bin hx hy fun w => by
    have e1 : FloatKind.f64.format.add (Fl.Fd a) (Fl.Fd c) = some (Fl.Fd (a + c)) := Fl.add_Fd a c h1
    have e2 : FloatKind.f64.format.add (Fl.Fd b) (Fl.Fd d) = some (Fl.Fd (b + d)) := Fl.add_Fd b d h2
    simp [eqGuard_add, binOp, Op.complexOp, Op.Complex.arith, Op.floatArith, e1, e2]
end
end Go.Sx
/- The engine: pointers compared, checked, made unsafe and back; calls of function values. -/
namespace Go.Sx
open Go.RowKit Go.Lib

section
variable {P : Program} {η : List Ob} {σ : Sl} {dst : Option Nat} {ty : TypeId} {pos : String} {after : Array Edge} {gd : Option (Nat × Bool)} {t yt : TypeId} {x y : Operand}
theorem Y_nilc_p {id o : Nat} (hx : oval σ x = .ptr id o) : Ylds P η σ ⟨dst, .nilCheck x, ty, pos, after, gd⟩ (.ptr id o) := by
  refine Ylds.same fun g w a hi h => ⟨a.eval x, ?_, ?_⟩
  · have h1 := h x (by simp [Op.operands]); rw [hx] at h1
    obtain ⟨_, b, _, hv⟩ := h1
    simp [execOp, hv]
  · have h1 := h x (by simp [Op.operands]); rw [hx] at h1; exact h1
theorem Y_eqnil_p {id o : Nat} (hx : oval σ x = .ptr id o) (hy : oval σ y = .d (.val (.pointer none))) (hu : P.underlying t = some (.pointer (P.pointee t))) : Ylds P η σ ⟨dst, .binOp .eql t x y yt, ty, pos, after, gd⟩ (.d (.val (.bool false))) := by
  refine Ylds.same fun g w a hi h => ⟨.bool false, ?_, .val _⟩
  have h1 := h x (by simp [Op.operands]); rw [hx] at h1
  have h2 := h y (by simp [Op.operands]); rw [hy] at h2
  obtain ⟨_, b, _, hv⟩ := h1
  have := run_eql_pointer_nil (P := P) w t (some ⟨b, o, none⟩) hu
  simp only [execOp, hv, RepD.val_eq h2, eqGuard_at_pointer, Sem.run_bind, Sem.run_pure, Result.andThen_ok, this]
  rfl
theorem Y_eqnil_n (hx : oval σ x = .d (.val (.pointer none))) (hy : oval σ y = .d (.val (.pointer none))) (hu : P.underlying t = some (.pointer (P.pointee t))) : Ylds P η σ ⟨dst, .binOp .eql t x y yt, ty, pos, after, gd⟩ (.d (.val (.bool true))) := by
  refine Ylds.same fun g w a hi h => ⟨.bool true, ?_, .val _⟩
  have h1 := h x (by simp [Op.operands]); rw [hx] at h1
  have h2 := h y (by simp [Op.operands]); rw [hy] at h2
  have := run_eql_pointer_nil (P := P) w t none hu
  simp only [execOp, RepD.val_eq h1, RepD.val_eq h2, eqGuard_at_pointer, Sem.run_bind, Sem.run_pure, Result.andThen_ok, this]
  rfl
theorem Y_neqpp {id o e : Nat} (hx : oval σ x = .ptr id o) (hy : oval σ y = .ptr id o) (hu : P.underlying t = some (.pointer e)) (hs : (P.info? e).isSome = true) : Ylds P η σ ⟨dst, .binOp .neq t x y yt, ty, pos, after, gd⟩ (.d (.val (.bool false))) := by
  obtain ⟨j, hj⟩ := Option.isSome_iff_exists.1 hs
  refine Ylds.same fun g w a hi h => ⟨.bool false, ?_, .val _⟩
  have h1 := h x (by simp [Op.operands]); rw [hx] at h1
  have h2 := h y (by simp [Op.operands]); rw [hy] at h2
  obtain ⟨_, b, hb, hv⟩ := h1
  obtain ⟨_, b2, hb2, hv2⟩ := h2
  rw [hb] at hb2; injection hb2 with hb2; subst hb2
  have := run_neq_ptr_same (P := P) w ⟨b, o, none⟩ hu hj
  simp only [execOp, hv, hv2, eqGuard_at_pointer, Sem.run_bind, Sem.run_pure, Result.andThen_ok, this]

/-- *T to unsafe.Pointer: the address of a box of the call's own -/
theorem Y_tounsafe {id e : Nat} {k : Option Nat} {et : Option TypeId} {cs : List SV} {src tdst : TypeId} (hx : oval σ x = .ptr id 0) (ho : η[id]? = some (.bx k et cs)) (hc : Nat.blt 0 cs.length = true) (hs : P.underlying src = some (.pointer e)) (hd : P.underlying tdst = some .unsafePointer) (hsz : ((P.info? e).map fun i => Nat.blt 0 i.size) = some true) :
    Ylds P η σ ⟨dst, .convert src tdst x, ty, pos, after, gd⟩ (.ptr id 0) := by
  cases hj : P.info? e with
  | none => simp [hj] at hsz
  | some j =>
    simp [hj] at hsz
    have hc : 0 < cs.length := by simpa using hc
    refine Ylds.same fun g w a hi h => ?_
    have h1 := h x (by simp [Op.operands]); rw [hx] at h1
    obtain ⟨q1, b, hb, hv⟩ := h1
    obtain ⟨b', e', us, h2, h3, h4, _⟩ := hi.ob id _ ho
    rw [hb] at h2; injection h2 with h2; subst h2
    have hsh : w.shape? b = some (e', us.size) := by unfold World.shape?; rw [h3]
    have := run_to_unsafe (P := P) w (src := src) (dst := tdst) (cells := us.size) ⟨b, 0, none⟩ hs hd hj (by omega) hsh (by show 0 < us.size; omega)
    exact ⟨.pointer (some ⟨b, 0, none⟩), by simp only [execOp, hv, Sem.run_bind, this, Result.andThen_ok, Sem.run_pure], q1, b, hb, rfl⟩
/-- unsafe.Pointer to *U, where a variable laid out as U lies at the box's head -/
theorem Y_fromunsafe {id e u : Nat} {k : Option Nat} {cs : List SV} {src tdst : TypeId} (hx : oval σ x = .ptr id 0) (ho : η[id]? = some (.bx k (some e) cs)) (hs : P.underlying src = some .unsafePointer) (hd : P.underlying tdst = some (.pointer u)) (hu : (P.info? u).isSome = true) (hl : liesAt P P.depth e (cs.length / P.cellsOf e) 0 u 1 = true) :
    Ylds P η σ ⟨dst, .convert src tdst x, ty, pos, after, gd⟩ (.ptr id 0) := by
  obtain ⟨j, hj⟩ := Option.isSome_iff_exists.1 hu
  refine Ylds.same fun g w a hi h => ?_
  have h1 := h x (by simp [Op.operands]); rw [hx] at h1
  obtain ⟨q1, b, hb, hv⟩ := h1
  obtain ⟨b', e', us, h2, h3, h4, _, _, _, h8⟩ := hi.ob id _ ho
  rw [hb] at h2; injection h2 with h2; subst h2
  have he := h8.2 e rfl
  subst he
  have hsh : w.shape? b = some (e, us.size) := by unfold World.shape?; rw [h3]
  have := run_from_unsafe (P := P) w (src := src) (dst := tdst) ⟨b, 0, none⟩ hs hd hj hsh (by rw [h4]; exact hl)
  exact ⟨.pointer (some ⟨b, 0, none⟩), by simp only [execOp, hv, Sem.run_bind, this, Result.andThen_ok, Sem.run_pure], q1, b, hb, rfl⟩
/-- is f abi.NoEscape, which has no body and hands back what it is given? -/
def noEsc (P : Program) (f : FuncId) : Prop := ∃ fn, P.funcs[f]? = some fn ∧ (fn.name == "runtime.NumGoroutine") = false ∧ fn.body.isNone = true ∧ Extern.findNext fn = none ∧ Extern.find fn = some Extern.AbiNoEscape.same
theorem Y_noesc {id o : Nat} {f : FuncId} {ts : Array TypeId} (hx : oval σ x = .ptr id o) (hf : noEsc P f) : Ylds P η σ ⟨dst, .call ⟨.value (.func f), #[x], ts⟩, ty, pos, after, gd⟩ (.ptr id o) := by
  obtain ⟨fn, f1, f2, f3, f4, f5⟩ := hf
  refine Ylds.same fun g w a hi h => ⟨a.eval x, ?_, ?_⟩
  · have := run_callFunc_extern (P := P) f1 f2 f3 f4 f5 #[a.eval x] w
    rw [run_noEscape] at this
    simp only [execOp, resolve, Act.eval, Deferred.ofValue, invoke, Sem.run_bind, Sem.run_pure, Result.andThen_ok, List.map_toArray, List.map_cons, List.map_nil, Array.empty_append, Array.append_empty]
    exact this
  · have h1 := h x (by simp [Op.operands, Call.operands]); rw [hx] at h1; exact h1

/-- a call of a function value that captures nothing -/
theorem Y_callv {f : FuncId} {args : List Operand} {ts : Array TypeId} {ds : List D} {res : D} (hx : oval σ x = .d (.val (.func (.func f) #[] #[]))) (hb : hasBody P f = true) (hc : PCall P f ds res) (ha : CoL η σ args ds) :
    Ylds P η σ ⟨dst, .call ⟨.value x, args.toArray, ts⟩, ty, pos, after, gd⟩ (.d res) := by
  intro g w a hi hop
  have hr := CoL.rep (a := a) hi args ds (fun y hm => hop y (by simp [Op.operands, Call.operands, hm])) ha
  have hxr := hop x (by simp [Op.operands, Call.operands]); rw [hx] at hxr
  have hv := RepD.val_eq hxr
  refine .inr ⟨f, (args.map a.eval).toArray, ?_, ?_⟩
  · simp only [execOp, resolve, hv, Deferred.ofValue, invoke, Sem.run_bind, Sem.run_pure, Result.andThen_ok, List.map_toArray, Array.empty_append, Array.append_empty]
    exact hasBody_run hb
  · refine (hc g.St w _ hi.st hi.gl hr).mono fun e w' ⟨v, St', he, hrep, hbel, hkeep, hnew, hlt⟩ => ?_
    exact ⟨v, { g with St := St' }, he, ⟨rfl, rfl, rfl, rfl, hbel.os, hbel.tape, hbel.output, hbel.size, hbel.block, hkeep.sub, hnew, hlt⟩, hrep⟩
/-- a function that captures nothing, as a value -/
theorem Co_fn {f : FuncId} : cst (.func (.func f) #[] #[]) = .d (.val (.func (.func f) #[] #[])) := rfl
end
end Go.Sx
/- The engine: functions that read objects of their caller; closures that write to them; a row that lies in a box. -/
namespace Go.Sx
open Go.RowKit Go.Lib

/-- What a call of f comes to, that reads objects pre and turns none. -/
def QCall (P : Program) (f : FuncId) (as : List SV) (pre : List Ob) (res : D) : Prop :=
  ∀ (g : Gh) (w : World) (vs : List Value), Inv g w pre → RepSs g w vs as →
    Calls P f vs.toArray w (fun e w' => ∃ v St', e = .returned v ∧ RepD St' w' v res ∧ Below w.heap.size w w' ∧ Keep g.St w St' w' ∧
      (∀ b o, St' b o → g.St b o ∨ w.heap.size ≤ b) ∧ (∀ b o, St' b o → b < w'.heap.size))

theorem qcall_of {P : Program} {f : FuncId} {fn : Func} {c : Code} {as : List SV} {pre : List Ob} {res : D} {N : Nat} {rs : Array ResultVar} (hf : P.funcs[f]? = some fn) (hb : fn.body = some c) (hN : fn.ntmps = N) (hrs : fn.results = rs) (hl : Nat.ble as.length N = true)
    (h : ∀ (w0 : World) (St0 : Stab), awp ⟨P, N, w0, St0, fun _ => False, pre.length⟩ c (rpost rs res) (sargs as 0) pre) : QCall P f as pre res := by
  intro g w vs hi hrep
  subst hN
  have hl := Nat.le_of_ble_eq_true hl
  have hlen := hrep.len
  refine calls_of_wp hf hb (h w g.St _ ?_ _ _ ?_)
  · intro e σ' η' a' w' hq ⟨g', ha⟩
    have fin : ResOk rs σ' η' res → a'.defers = [] ∧ ∃ v, (results fn a'.tmps).run P w' = .ok v w' ∧ ∃ v_1 St', Ending.returned v = .returned v_1 ∧ RepD St' w' v_1 res ∧ Below w.heap.size w w' ∧ Keep g.St w St' w' ∧
      (∀ b o, St' b o → g.St b o ∨ w.heap.size ≤ b) ∧ (∀ b o, St' b o → b < w'.heap.size) := by
      intro hq
      obtain ⟨v, hr, hd⟩ := hq.run (P := P) hrs ha
      refine ⟨ha.defers, v, hr, v, g'.St, rfl, hd, ⟨ha.os, ha.tape, ha.output, ha.wsize, fun k hk => ha.heap k hk (fun h => h)⟩, ha.keep, fun b o hb => ?_, ha.inv.st⟩
      rcases ha.new b o hb with h1 | h1 | h1
      · exact .inl h1
      · exact .inr h1
      · exact h1.elim
    cases e <;> first | exact fin hq | exact hq.elim
  · refine ⟨g, rfl, ?_, hi, rfl, rfl, rfl, Nat.le_refl _, fun _ _ _ => rfl, Keep.refl g.St w, fun _ _ h => .inl h, fun i b hb hr => ?_, ?_⟩
    · simp [hlen]; omega
    · exfalso
      have h1 : pre.length ≤ i := hr
      have h2 := hi.dead i (by rw [hi.n]; exact h1)
      rw [hb] at h2; cases h2
    · refine sargs_rep vs as 0 _ hrep fun j v hj => ?_
      have hjl : j < vs.length := (List.getElem?_eq_some_iff.1 hj).1
      simp only [Nat.zero_add, Array.getD_eq_getD_getElem?]
      rw [Array.getElem?_append_left (by simpa using hjl)]
      simp [hj]

/-! ### calls of what a slot, or a name, says -/
theorem SArgs.repO {g : Gh} {w : World} {a : Act} {σ : Sl} {ids : List Nat} : ∀ (xs : List Operand) (ss : List SV), (∀ x ∈ xs, RepS g w (a.eval x) (oval σ x)) → SArgs σ ids xs ss → xs.length = ss.length ∧ ∀ (j : Nat) v s, (xs.map a.eval)[j]? = some v → ss[j]? = some s → RepS g w v (s.ren ids)
  | [], [], _, _ => ⟨rfl, fun j v s h => by simp at h⟩
  | x :: xs, s :: ss, ho, ⟨h1, h2⟩ => by
    obtain ⟨e1, e2⟩ := SArgs.repO xs ss (fun y hy => ho y (by simp [hy])) h2
    refine ⟨by simp [e1], fun j v s' hv hs => ?_⟩
    match j with
    | 0 =>
      simp at hv hs; subst hv; subst hs
      have := ho x (by simp); rw [h1] at this; exact this
    | j + 1 => exact e2 j v s' (by simpa using hv) (by simpa using hs)
  | [], _ :: _, _, h => h.elim
  | _ :: _, [], _, h => h.elim

/-- what the callee is handed: its arguments, and what it has captured -/
theorem clo_args {g : Gh} {w : World} {a : Act} {σ : Sl} {ids cs cids : List Nat} {x : Operand} {f : FuncId} {args : List Operand} {as : List SV} (hx : oval σ x = .clo f cids) (hcs : cs.map (fun j => ids.getD j 0) = cids) (ho : RepS g w (a.eval x) (oval σ x)) (ha : ∀ y ∈ args, RepS g w (a.eval y) (oval σ y)) (hs : SArgs σ ids args as) :
    ∃ cv : List Value, a.eval x = .func (.func f) #[] cv.toArray ∧ (args.map a.eval ++ cv).length = (as ++ cs.map fun j => SV.ptr j 0).length ∧ ∀ (j : Nat) v s, (args.map a.eval ++ cv)[j]? = some v → (as ++ cs.map fun j => SV.ptr j 0)[j]? = some s → RepS g w v (s.ren ids) := by
  rw [hx] at ho
  obtain ⟨cv, h1, h2, h3⟩ := ho
  obtain ⟨e1, e2⟩ := SArgs.repO args as ha hs
  have hl : cs.length = cids.length := by rw [← hcs, List.length_map]
  refine ⟨cv, h1, by simp [e1, h2, hl], fun j v s hv hs => ?_⟩
  rcases Nat.lt_or_ge j args.length with hj | hj
  · rw [List.getElem?_append_left (by simpa using hj)] at hv
    rw [List.getElem?_append_left (by omega)] at hs
    exact e2 j v s hv hs
  · rw [List.getElem?_append_right (by simpa using hj)] at hv
    rw [List.getElem?_append_right (by omega)] at hs
    rw [List.length_map] at hv
    rw [List.getElem?_map] at hs
    rw [← e1] at hs
    cases hc : cs[j - args.length]? with
    | none => simp [hc] at hs
    | some c =>
      simp [hc] at hs; subst hs
      have hid : cids[j - args.length]? = some (ids.getD c 0) := by rw [← hcs, List.getElem?_map, hc]; rfl
      exact h3 (j - args.length) _ v hid hv

section
variable {P : Program} {η : List Ob} {σ : Sl} {dst : Option Nat} {ty : TypeId} {pos : String} {after : Array Edge} {gd : Option (Nat × Bool)} {t yt : TypeId} {x y : Operand}
theorem run_callv {f : FuncId} {a : Act} {cv : List Value} {args : List Operand} {ts : Array TypeId} {w : World} (hx : a.eval x = .func (.func f) #[] cv.toArray) (hb : hasBody P f = true) :
    (execOp a.eval ⟨dst, .call ⟨.value x, args.toArray, ts⟩, ty, pos, after, gd⟩).run P w = .ok (.enter f (args.map a.eval ++ cv).toArray) w := by
  simp only [execOp, resolve, hx, Deferred.ofValue, invoke, Sem.run_bind, Sem.run_pure, Result.andThen_ok, List.map_toArray, Array.empty_append]
  rw [List.append_toArray]
  exact hasBody_run hb
/-- a call of a function, or of a closure, that reads objects -/
theorem Y_qcall0 {f : FuncId} {args : List Operand} {ts : Array TypeId} {as : List SV} {pre : List Ob} {res : D} {cids : List Nat} (ids cs : List Nat) (hx : oval σ x = .clo f cids) (hcs : cs.map (fun j => ids.getD j 0) = cids) (hb : hasBody P f = true) (hc : QCall P f (as ++ cs.map fun j => SV.ptr j 0) pre res) (ha : SArgs σ ids args as) (hp : Picks η ids pre)
    (hn : ids.Nodup) (hlen : ids.length = pre.length) (hu : unlaid pre = true) (hbl : pre.all (Ob.below pre.length) = true) (hba : (as ++ cs.map fun j => SV.ptr j 0).all (SV.below pre.length) = true) :
    Ylds P η σ ⟨dst, .call ⟨.value x, args.toArray, ts⟩, ty, pos, after, gd⟩ (.d res) := by
  intro g w a hi hop
  obtain ⟨cv, e1, e2, e3⟩ := clo_args (g := g) (w := w) (a := a) hx hcs (hop x (by simp [Op.operands, Call.operands])) (fun y hy => hop y (by simp [Op.operands, Call.operands, hy])) ha
  refine .inr ⟨f, _, run_callv e1 hb, ?_⟩
  have hr := RepSs.callee (g := g) (w := w) hlen _ _ e3 e2 hba
  refine (hc (calleeG g ids) w _ (hi.callee hn hlen hp hu hbl) hr).mono fun e w' ⟨v, St', he, hrep, hbel, hkeep, hnew, hlt⟩ => ?_
  exact ⟨v, { g with St := St' }, he, ⟨rfl, rfl, rfl, rfl, hbel.os, hbel.tape, hbel.output, hbel.size, hbel.block, hkeep.sub, hnew, hlt⟩, hrep⟩
theorem Y_qcall {f : FuncId} {args : List Operand} {ts : Array TypeId} {asx : List SV} {pre : List Ob} {res : D} {cids : List Nat} (ids cs : List Nat) (hx : oval σ x = .clo f cids) (hcs : cs.map (fun j => ids.getD j 0) = cids) (hb : hasBody P f = true) (hc : QCall P f asx pre res) (hsp : asx.drop args.length = cs.map fun j => SV.ptr j 0) (ha : SArgs σ ids args (asx.take args.length)) (hp : Picks η ids pre)
    (hn : ids.Nodup) (hlen : ids.length = pre.length) (hu : unlaid pre = true) (hbl : pre.all (Ob.below pre.length) = true) (hba : asx.all (SV.below pre.length) = true) :
    Ylds P η σ ⟨dst, .call ⟨.value x, args.toArray, ts⟩, ty, pos, after, gd⟩ (.d res) := by
  have e : asx = asx.take args.length ++ cs.map fun j => SV.ptr j 0 := by rw [← hsp, List.take_append_drop]
  exact Y_qcall0 ids cs hx hcs hb (e ▸ hc) ha hp hn hlen hu hbl (e ▸ hba)
/-- a call of a function that a slot holds, and that captures nothing -/
theorem Y_pclo {f : FuncId} {args : List Operand} {ts : Array TypeId} {ds : List D} {res : D} (hx : oval σ x = .clo f []) (hb : hasBody P f = true) (hc : PCall P f ds res) (ha : CoL η σ args ds) :
    Ylds P η σ ⟨dst, .call ⟨.value x, args.toArray, ts⟩, ty, pos, after, gd⟩ (.d res) := by
  intro g w a hi hop
  have hr := CoL.rep (a := a) hi args ds (fun y hm => hop y (by simp [Op.operands, Call.operands, hm])) ha
  have hxr := hop x (by simp [Op.operands, Call.operands]); rw [hx] at hxr
  obtain ⟨cv, h1, h2, _⟩ := hxr
  have : cv = [] := List.eq_nil_of_length_eq_zero h2
  subst this
  refine .inr ⟨f, _, run_callv h1 hb, ?_⟩
  rw [List.append_nil]
  refine (hc g.St w _ hi.st hi.gl hr).mono fun e w' ⟨v, St', he, hrep, hbel, hkeep, hnew, hlt⟩ => ?_
  exact ⟨v, { g with St := St' }, he, ⟨rfl, rfl, rfl, rfl, hbel.os, hbel.tape, hbel.output, hbel.size, hbel.block, hkeep.sub, hnew, hlt⟩, hrep⟩
end

section
variable {C : Ctx} {ops : Array Oper} {rest : List Oper} {K : Sl → List Ob → Prop} {σ : Sl} {η : List Ob} {d : Nat} {ty : TypeId} {pos : String} {after : Array Edge} {gd : Option (Nat × Bool)} {t : TypeId} {x y : Operand}
/-- a call of a function, or of a closure, that writes to objects -/
theorem aMClo0 {f : FuncId} {args : List Operand} {ts : Array TypeId} {as : List SV} {pre post : List Ob} {res : SV} {cids : List Nat} (ids cs : List Nat) (hx : oval σ x = .clo f cids) (hcs : cs.map (fun j => ids.getD j 0) = cids) (hb : hasBody C.P f = true) (hc : MCall C.P f (as ++ cs.map fun j => SV.ptr j 0) pre res post) (ha : SArgs σ ids args as) (hp : Picks η ids pre) (hd : Nat.blt d C.N = true)
    (hn : ids.Nodup) (hlen : ids.length = pre.length) (hu : unlaid pre = true) (hbl : pre.all (Ob.below pre.length) = true) (hba : (as ++ cs.map fun j => SV.ptr j 0).all (SV.below pre.length) = true) (hk : sameBoxes pre post = true) (hro : ids.all (fun i => Nat.ble C.ro i) = true)
    (h : alex C false ops rest K ((d, res.ren ids) :: wipeσ (bufsOf ids pre) ids σ) (setAll (wipeη (bufsOf ids pre) ids η) ids (post.map (Ob.ren ids)))) :
    astep C false ops ⟨some d, .call ⟨.value x, args.toArray, ts⟩, ty, pos, after, gd⟩ rest K σ η := by
  intro Q hQ a w ⟨g, hg⟩ K' hK'
  obtain ⟨cv, e1, e2, e3⟩ := clo_args (g := g) (w := w) (a := a) hx hcs (hg.eval x) (fun y _ => hg.eval y) ha
  unfold Oper.wp
  rw [run_callv e1 hb, Oper.upon_enter]
  have hr := RepSs.callee (g := g) (w := w) hlen _ _ e3 e2 hba
  refine (hc (calleeG g ids) w _ (hg.inv.callee hn hlen hp hu hbl) hr).mono fun e w' ⟨v, g', he, hI, hres, hF⟩ => ?_
  subst he
  obtain ⟨g2, h1, h2⟩ := hg.called hn hlen hp hk hro hI hres hF
  exact hK' _ _ (h Q hQ _ w' ⟨g2, h1.put (d := some d) hd h2⟩)

theorem aMClo {f : FuncId} {args : List Operand} {ts : Array TypeId} {asx : List SV} {pre post : List Ob} {res : SV} {cids : List Nat} (ids cs : List Nat) (hx : oval σ x = .clo f cids) (hcs : cs.map (fun j => ids.getD j 0) = cids) (hb : hasBody C.P f = true) (hc : MCall C.P f asx pre res post) (hsp : asx.drop args.length = cs.map fun j => SV.ptr j 0) (ha : SArgs σ ids args (asx.take args.length)) (hp : Picks η ids pre) (hd : Nat.blt d C.N = true)
    (hn : ids.Nodup) (hlen : ids.length = pre.length) (hu : unlaid pre = true) (hbl : pre.all (Ob.below pre.length) = true) (hba : asx.all (SV.below pre.length) = true) (hk : sameBoxes pre post = true) (hro : ids.all (fun i => Nat.ble C.ro i) = true)
    (h : alex C false ops rest K ((d, res.ren ids) :: wipeσ (bufsOf ids pre) ids σ) (setAll (wipeη (bufsOf ids pre) ids η) ids (post.map (Ob.ren ids)))) :
    astep C false ops ⟨some d, .call ⟨.value x, args.toArray, ts⟩, ty, pos, after, gd⟩ rest K σ η := by
  have e : asx = asx.take args.length ++ cs.map fun j => SV.ptr j 0 := by rw [← hsp, List.take_append_drop]
  exact aMClo0 ids cs hx hcs hb (e ▸ hc) ha hp hd hn hlen hu hbl (e ▸ hba) hk hro h

theorem aBoxT {s : SV} {cs : List SV} (hx : oval σ x = s) (hc : scells s = some cs) (hd : Nat.blt d C.N = true) (hro : Nat.ble C.ro η.length = true) (h : alex C false ops rest K ((d, .ptr η.length 0) :: σ) (η ++ [.bx none (some t) cs]) ) :
    astep C false ops ⟨some d, .box t x, ty, pos, after, gd⟩ rest K σ η := by
  refine estep (fun g a w ha => ?_) h
  have hr := ha.eval x
  rw [hx] at hr
  obtain ⟨h1, h2, h3⟩ := hr.cells hc
  exact ⟨_, _, by simp [execOp, Instr.box, newVar, newRow], absBoxT (some t) ha t (fun _ h => (Option.some.inj h).symm) (a.eval x).cells cs hd (Nat.le_of_ble_eq_true hro) h1 h2 h3⟩

/-! ### ghosts: a nil slice in a box becomes a row -/
theorem awp_cellbuf {Q : Exit → Sl → List Ob → Prop} {c : Code} (id j : Nat) (mu : Bool) (e sz : Nat) {k : Option Nat} {et : Option TypeId} {cs : List SV} (ho : η[id]? = some (.bx k et cs)) (hj : cs[j]? = some (.d (.val (.slice none 0 0)))) (hro : Nat.ble C.ro η.length = true)
    (h : awp C c Q σ (η.set id (.bx k et (cs.set j (.buf η.length 0))) ++ [.buf mu e sz []])) : awp C c Q σ η := by
  intro R hR a w ⟨g, ha⟩
  refine h R hR a w ?_
  have hn := ha.inv.n
  let g' : Gh := { g with blk := upd g.blk g.n none, cap := upd g.cap g.n 0, sz := upd g.sz g.n sz, n := g.n + 1 }
  have hold : ∀ id, id < g.n → g'.blk id = g.blk id ∧ g'.cap id = g.cap id ∧ g'.sz id = g.sz id := fun id hid => by simp [g', upd, Nat.ne_of_lt hid]
  have hab := ha.newOb (g' := g') (w' := w) (.buf mu e sz []) rfl rfl rfl (Nat.le_refl _) (fun _ _ => rfl) rfl hold (fun id hid => by
      have hne : id ≠ g.n := by omega
      simp only [g', upd, if_neg hne]
      exact ha.inv.dead id (by omega)) (fun b hb => by simp [g', upd] at hb) (fun _ _ h => h) (fun _ _ h => .inl h) ha.inv.st (by rw [hn]; exact Nat.le_of_ble_eq_true hro)
    ⟨by simp [g', upd], by simp, by simp [g', upd], by simp, .inl ⟨by simp [g', upd], by simp [g', upd]⟩⟩
  have hidl : id < η.length := (List.getElem?_eq_some_iff.1 ho).1
  refine ⟨g', { hab with inv := { hab.inv with n := by simpa using hab.inv.n, ob := fun i o hi => ?_ } }⟩
  rcases Nat.lt_or_ge i η.length with hil | hil
  · rw [List.getElem?_append_left (by simpa using hil), List.getElem?_set] at hi
    split at hi
    · rename_i hc; subst hc
      try rw [if_pos hidl] at hi
      injection hi with hi; subst hi
      obtain ⟨b, e', us, h1, h2, h3, h4, h5, h6, h7⟩ := hab.inv.ob id (.bx k et cs) (by rw [List.getElem?_append_left hidl]; exact ho)
      refine ⟨b, e', us, h1, h2, by simpa using h3, h4, fun m u s hu hs => ?_, h6, h7⟩
      rw [List.getElem?_set] at hs
      split at hs
      · rename_i hm; subst hm
        have hjl := (List.getElem?_eq_some_iff.1 hj).1
        try rw [if_pos hjl] at hs
        injection hs with hs; subst hs
        have h8 := RepD.val_eq (h5 j u _ hu hj)
        refine ⟨by show η.length < g.n + 1; omega, ?_⟩
        rw [h8, ← hn]; simp [g', upd]
      · exact h5 m u s hu hs
    · exact hab.inv.ob i o (by rw [List.getElem?_append_left hil]; exact hi)
  · rw [List.getElem?_append_right (by simpa using hil)] at hi
    exact hab.inv.ob i o (by rw [List.getElem?_append_right hil]; simpa using hi)
end

/-! ### a row's head, in a region that draws its order -/
def isPtr (v : Value) : Prop := ∃ p, v = .pointer p
section
variable {P : Program} {η : List Ob} {σ : Sl} {dst : Option Nat} {ty : TypeId} {pos : String} {after : Array Edge} {gd : Option (Nat × Bool)} {t yt : TypeId} {x y : Operand}
theorem sliceData_any {id n e : Nat} {mu : Bool} {l : List UInt8} {te : TypeId} (hx : oval σ x = .buf id n) (ho : η[id]? = some (.buf mu e 1 (bys l))) (hn : n = l.length) (hp : P.underlying ty = some (.pointer te)) (s : SV) (h1 : 0 < l.length → s = .bptr id 0 0) (h0 : l.length = 0 → s = .p isPtr) :
    Ylds P η σ ⟨dst, .call ⟨.builtin .unsafeSliceData, #[x], #[t]⟩, ty, pos, after, gd⟩ s := by
  subst hn
  intro g w a hi hop
  have hxr := hop x (by simp [Op.operands, Call.operands]); rw [hx] at hxr
  obtain ⟨hidn, hxv⟩ := hxr
  obtain ⟨o1, o2, o3, o4, o5⟩ := hi.ob id _ ho
  rw [bys_len] at o4
  have fin : ∀ (v : Value) (w' : World), (Builtin.unsafeSliceData_ #[t] ty #[a.eval x]).run P w = .ok v w' → (execOp a.eval ⟨dst, .call ⟨.builtin .unsafeSliceData, #[x], #[t]⟩, ty, pos, after, gd⟩).run P w = .ok (.value v) w' := by
    intro v w' hr
    simp only [execOp, resolve, invoke, builtin, Sem.run_bind, Sem.run_pure, Result.andThen_ok, List.map_toArray, List.map_cons, List.map_nil, hr]
  refine .inl ?_
  rcases o5 with ⟨hb, hc⟩ | ⟨b, us, hb, hh, hsz, _, _, _⟩
  · have hl : l.length = 0 := by omega
    rw [hb] at hxv
    exact ⟨.pointer none, g, w, fin _ _ (by rw [hxv]; exact run_unsafeSliceData_nil w _ _ _ _), Grow.refl hi.st, by rw [h0 hl]; exact ⟨_, rfl⟩⟩
  · rw [hb] at hxv
    by_cases hcap : g.cap id = 0
    · have hl : l.length = 0 := by omega
      rw [hcap, hl] at hxv
      have hsh : w.shape? b = some (e, us.size) := by unfold World.shape?; rw [hh]
      have hr := run_unsafeSliceData_zero (P := P) w #[t] ty te hp ⟨b, 0, none⟩ 0 (e, us.size) hsh
      have hgr : Grow g w g (w.alloc (.view ⟨b, 0, none⟩ te)) := ⟨rfl, rfl, rfl, rfl, rfl, rfl, rfl, by simp, fun k hk => Below.heap_alloc w _ k hk, fun _ _ h => h, fun _ _ h => .inl h, fun b o hb => Nat.lt_of_lt_of_le (hi.st b o hb) (by simp)⟩
      exact ⟨.pointer (some ⟨w.heap.size, 0, none⟩), g, _, fin _ _ (by rw [hxv]; exact hr), hgr, by rw [h0 hl]; exact ⟨_, rfl⟩⟩
    · have hr := run_unsafeSliceData_row (P := P) w #[t] ty ⟨b, 0, none⟩ l.length (g.cap id) hcap
      refine ⟨.pointer (some ⟨b, 0, none⟩), g, w, fin _ _ (by rw [hxv]; exact hr), Grow.refl hi.st, ?_⟩
      rcases Nat.eq_zero_or_pos l.length with hl | hl
      · rw [h0 hl]; exact ⟨_, rfl⟩
      · rw [h1 hl]; exact ⟨hidn, b, hb, by simp⟩
theorem Y_sdata1 {id n e : Nat} {mu : Bool} {l : List UInt8} {te : TypeId} (hx : oval σ x = .buf id n) (ho : η[id]? = some (.buf mu e 1 (bys l))) (hn : n = l.length) (hp : P.underlying ty = some (.pointer te)) (hl : l ≠ []) : Ylds P η σ ⟨dst, .call ⟨.builtin .unsafeSliceData, #[x], #[t]⟩, ty, pos, after, gd⟩ (.bptr id 0 0) :=
  sliceData_any hx ho hn hp _ (fun _ => rfl) (fun h => absurd (List.eq_nil_of_length_eq_zero h) hl)
theorem Y_sdata0 {id n e : Nat} {mu : Bool} {te : TypeId} (hx : oval σ x = .buf id n) (ho : η[id]? = some (.buf mu e 1 (bys []))) (hn : n = 0) (hp : P.underlying ty = some (.pointer te)) : Ylds P η σ ⟨dst, .call ⟨.builtin .unsafeSliceData, #[x], #[t]⟩, ty, pos, after, gd⟩ (.p isPtr) :=
  sliceData_any hx ho hn hp _ (fun h => absurd h (by simp)) (fun _ => rfl)
theorem Y_ustr0p {t1 t2 : TypeId} (hx : oval σ x = .p isPtr) (hy : oval σ y = .d (.val (.int .i64 0))) : Ylds P η σ ⟨dst, .call ⟨.builtin .unsafeString, #[x, y], #[t1, t2]⟩, ty, pos, after, gd⟩ (.d (str [])) := by
  refine Ylds.same fun g w a hi h => ⟨.string .empty, ?_, .val _⟩
  have h1 := h x (by simp [Op.operands, Call.operands]); rw [hx] at h1
  have h2 := h y (by simp [Op.operands, Call.operands]); rw [hy] at h2
  obtain ⟨p, hp⟩ := h1
  simp only [execOp, resolve, invoke, builtin, Sem.run_bind, Sem.run_pure, Result.andThen_ok, List.map_toArray, List.map_cons, List.map_nil, hp, RepD.val_eq h2, run_unsafeString_none]
end
end Go.Sx
/- The engine: structs built of two or three values. -/
namespace Go.Sx
section
variable {P : Program} {η : List Ob} {σ : Sl} {dst : Option Nat} {ty : TypeId} {pos : String} {after : Array Edge} {gd : Option (Nat × Bool)} {t : TypeId}
theorem Y_build2 {i1 i2 : Nat} {x1 x2 : Operand} {v1 v2 : Value} {cells : List Value} (hx1 : oval σ x1 = .d (.val v1)) (hx2 : oval σ x2 = .d (.val v2))
    (hb : P.built t [(i1, v1), (i2, v2)] = some cells.toArray) (h1 : cells.all (·.oneCell') = true) : Ylds P η σ ⟨dst, .build t #[(i1, x1), (i2, x2)], ty, pos, after, gd⟩ (.d (.agg (cells.map .val))) :=
  Y_build (ps := [(i1, x1), (i2, x2)]) rfl (fun j p q hp hq => by
    match j, hp, hq with
    | 0, hp, hq => injection hp with hp; injection hq with hq; subst hp; subst hq; exact ⟨rfl, hx1⟩
    | 1, hp, hq => injection hp with hp; injection hq with hq; subst hp; subst hq; exact ⟨rfl, hx2⟩
    | j + 2, hp, hq => simp at hp) hb h1
theorem Y_build3 {i1 i2 i3 : Nat} {x1 x2 x3 : Operand} {v1 v2 v3 : Value} {cells : List Value} (hx1 : oval σ x1 = .d (.val v1)) (hx2 : oval σ x2 = .d (.val v2)) (hx3 : oval σ x3 = .d (.val v3))
    (hb : P.built t [(i1, v1), (i2, v2), (i3, v3)] = some cells.toArray) (h1 : cells.all (·.oneCell') = true) : Ylds P η σ ⟨dst, .build t #[(i1, x1), (i2, x2), (i3, x3)], ty, pos, after, gd⟩ (.d (.agg (cells.map .val))) :=
  Y_build (ps := [(i1, x1), (i2, x2), (i3, x3)]) rfl (fun j p q hp hq => by
    match j, hp, hq with
    | 0, hp, hq => injection hp with hp; injection hq with hq; subst hp; subst hq; exact ⟨rfl, hx1⟩
    | 1, hp, hq => injection hp with hp; injection hq with hq; subst hp; subst hq; exact ⟨rfl, hx2⟩
    | 2, hp, hq => injection hp with hp; injection hq with hq; subst hp; subst hq; exact ⟨rfl, hx3⟩
    | j + 3, hp, hq => simp at hp) hb h1
end
end Go.Sx
/- The engine: a nil slice of a variable's own becomes a row (ghost). -/
namespace Go.Sx
open Go.RowKit Go.Lib
section
variable {C : Ctx} {σ : Sl} {η : List Ob}
theorem awp_cellbufn {Q : Exit → Sl → List Ob → Prop} {c : Code} (id j : Nat) (mu : Bool) (e sz : Nat) {k : Option Nat} {et : Option TypeId} {cs : List SV} (ho : η[id]? = some (.bx k et cs)) (hj : cs[j]? = some .nil) (hro : Nat.ble C.ro η.length = true)
    (h : awp C c Q σ (η.set id (.bx k et (cs.set j (.buf η.length 0))) ++ [.buf mu e sz []])) : awp C c Q σ η := by
  intro R hR a w ⟨g, ha⟩
  refine h R hR a w ?_
  have hn := ha.inv.n
  let g' : Gh := { g with blk := upd g.blk g.n none, cap := upd g.cap g.n 0, sz := upd g.sz g.n sz, n := g.n + 1 }
  have hold : ∀ id, id < g.n → g'.blk id = g.blk id ∧ g'.cap id = g.cap id ∧ g'.sz id = g.sz id := fun id hid => by simp [g', upd, Nat.ne_of_lt hid]
  have hab := ha.newOb (g' := g') (w' := w) (.buf mu e sz []) rfl rfl rfl (Nat.le_refl _) (fun _ _ => rfl) rfl hold (fun id hid => by
      have hne : id ≠ g.n := by omega
      simp only [g', upd, if_neg hne]
      exact ha.inv.dead id (by omega)) (fun b hb => by simp [g', upd] at hb) (fun _ _ h => h) (fun _ _ h => .inl h) ha.inv.st (by rw [hn]; exact Nat.le_of_ble_eq_true hro)
    ⟨by simp [g', upd], by simp, by simp [g', upd], by simp, .inl ⟨by simp [g', upd], by simp [g', upd]⟩⟩
  have hidl : id < η.length := (List.getElem?_eq_some_iff.1 ho).1
  refine ⟨g', { hab with inv := { hab.inv with n := by simpa using hab.inv.n, ob := fun i o hi => ?_ } }⟩
  rcases Nat.lt_or_ge i η.length with hil | hil
  · rw [List.getElem?_append_left (by simpa using hil), List.getElem?_set] at hi
    split at hi
    · rename_i hc; subst hc
      try rw [if_pos hidl] at hi
      injection hi with hi; subst hi
      obtain ⟨b, e', us, h1, h2, h3, h4, h5, h6, h7⟩ := hab.inv.ob id (.bx k et cs) (by rw [List.getElem?_append_left hidl]; exact ho)
      refine ⟨b, e', us, h1, h2, by simpa using h3, h4, fun m u s hu hs => ?_, h6, h7⟩
      rw [List.getElem?_set] at hs
      split at hs
      · rename_i hm; subst hm
        have hjl := (List.getElem?_eq_some_iff.1 hj).1
        try rw [if_pos hjl] at hs
        injection hs with hs; subst hs
        have h8 : u = .slice none 0 0 := h5 j u _ hu hj
        refine ⟨by show η.length < g.n + 1; omega, ?_⟩
        rw [h8, ← hn]; simp [g', upd]
      · exact h5 m u s hu hs
    · exact hab.inv.ob i o (by rw [List.getElem?_append_left hil]; exact hi)
  · rw [List.getElem?_append_right (by simpa using hil)] at hi
    exact hab.inv.ob i o (by rw [List.getElem?_append_right hil]; simpa using hi)
end
end Go.Sx
/- The engine: any number of results, and results that lie in cells. -/
namespace Go.Sx
open Go.RowKit Go.Lib

def rvRun (tmps : Array Value) : ResultVar → Sem Value
  | .tmp t => pure (tmps.getD t undef)
  | .cell a t => do loadVar t (← asAddr (tmps.getD a undef))

theorem mapM_run {P : Program} {w : World} {tmps : Array Value} : ∀ (l : List ResultVar) (vs : List Value), l.length = vs.length → (∀ (j : Nat) r v, l[j]? = some r → vs[j]? = some v → (rvRun tmps r).run P w = .ok v w) → (l.mapM (rvRun tmps)).run P w = .ok vs w
  | [], [], _, _ => rfl
  | r :: l, v :: vs, hl, h => by
    have h0 := h 0 r v rfl rfl
    have ih := mapM_run l vs (by simpa using hl) (fun j r v h1 h2 => h (j + 1) r v (by simpa using h1) (by simpa using h2))
    rw [List.mapM_cons]
    simp only [Sem.run_bind, h0, Result.andThen_ok, ih, Sem.run_pure]
  | [], _ :: _, hl, _ => by simp at hl
  | _ :: _, [], hl, _ => by simp at hl

def tupV : List Value → Value
  | [v] => v
  | vs => .tuple vs.toArray

theorem results_list {P : Program} {w : World} {fn : Func} {tmps : Array Value} {l : List ResultVar} {vs : List Value} (hrs : fn.results = l.toArray) (hl : l.length = vs.length) (h : ∀ (j : Nat) r v, l[j]? = some r → vs[j]? = some v → (rvRun tmps r).run P w = .ok v w) : (results fn tmps).run P w = .ok (tupV vs) w := by
  have h1 := mapM_run l vs hl h
  have e : results fn tmps = (do let vs ← fn.results.mapM (rvRun tmps); pure (if h : vs.size = 1 then vs[0] else .tuple vs)) := by
    unfold results; congr 2
  rw [e, hrs, Array.mapM_eq_mapM_toList]
  simp only [Sem.run_bind, Sem.run_map, h1, Sem.run_pure, Result.andThen_ok]
  match vs with
  | [] => rfl
  | [v] => rfl
  | v :: u :: r => simp [tupV]

/-- cells, read as data -/
def CoV (η : List Ob) : List SV → List D → Prop
  | [], [] => True
  | s :: ss, d :: ds => Co η s d ∧ CoV η ss ds
  | _, _ => False
theorem CoV.len {η : List Ob} : ∀ {ss : List SV} {ds : List D}, CoV η ss ds → ss.length = ds.length
  | [], [], _ => rfl
  | _ :: _, _ :: _, h => by simp [CoV.len h.2]
  | [], _ :: _, h => h.elim
  | _ :: _, [], h => h.elim
theorem CoV.get {η : List Ob} : ∀ {ss : List SV} {ds : List D}, CoV η ss ds → ∀ (j : Nat) s d, ss[j]? = some s → ds[j]? = some d → Co η s d
  | s :: ss, d :: ds, h, 0, s', d', h1, h2 => by simp at h1 h2; subst h1; subst h2; exact h.1
  | s :: ss, d :: ds, h, j + 1, s', d', h1, h2 => CoV.get h.2 j s' d' (by simpa using h1) (by simpa using h2)
  | [], [], _, j, _, _, h1, _ => by simp at h1
  | [], _ :: _, h, _, _, _, _, _ => h.elim
  | _ :: _, [], h, _, _, _, _, _ => h.elim
theorem CoV_ds {η : List Ob} : ∀ {ss : List SV} {ds : List D}, toDs ss = some ds → CoV η ss ds
  | [], ds, h => by simp [toDs] at h; subst h; trivial
  | s :: r, ds, h => by
    cases s <;> simp only [toDs] at h
    all_goals first
      | (cases h; done)
      | (cases h2 : toDs r with
         | none => rw [h2] at h; cases h
         | some ds' => rw [h2] at h; cases h; exact ⟨by first | exact rfl | exact .inl rfl, CoV_ds h2⟩)

def RVal (P : Program) (σ : Sl) (η : List Ob) : ResultVar → D → Prop
  | .tmp r, d => Co η (get σ r) d
  | .cell a t, d => ∃ id o n kb et cs, get σ a = .ptr id o ∧ η[id]? = some (.bx kb et cs) ∧
      ((tyCells P t = some (true, n) ∧ o + n ≤ cs.length ∧ ∃ ds, CoV η ((cs.drop o).take n) ds ∧ d = .agg ds) ∨ (tyCells P t = some (false, n) ∧ ∃ s, cs[o]? = some s ∧ Co η s d))

def RVals (P : Program) (σ : Sl) (η : List Ob) : List ResultVar → List D → Prop
  | [], [] => True
  | r :: rs, d :: ds => RVal P σ η r d ∧ RVals P σ η rs ds
  | _, _ => False

def ResC (P : Program) (rs : Array ResultVar) (σ : Sl) (η : List Ob) (res : D) : Prop :=
  match rs.toList, res with
  | [r], d => RVal P σ η r d
  | l, .tup ds => RVals P σ η l ds
  | _, _ => False

def rpostC (P : Program) (rs : Array ResultVar) (res : D) : Exit → Sl → List Ob → Prop
  | .ret, σ, η => ResC P rs σ η res
  | .normal, σ, η => ResC P rs σ η res
  | _, _, _ => False
theorem rpostC_ret {P : Program} {rs : Array ResultVar} {res : D} {σ : Sl} {η : List Ob} (h : ResC P rs σ η res) : rpostC P rs res .ret σ η := h
section
variable {P : Program} {σ : Sl} {η : List Ob}
theorem resC_tup {r1 r2 : ResultVar} {rs : List ResultVar} {ds : List D} (h : RVals P σ η (r1 :: r2 :: rs) ds) : ResC P (r1 :: r2 :: rs).toArray σ η (.tup ds) := h
theorem resC_one {r : ResultVar} {d : D} (h : RVals P σ η [r] [d]) : ResC P [r].toArray σ η d := h.1
theorem RV_nil : RVals P σ η [] [] := trivial
theorem RV_d {r : Nat} {d d' : D} {rs : List ResultVar} {ds : List D} (h : get σ r = .d d') (h2 : RVals P σ η rs ds) (e : d' = d) : RVals P σ η (.tmp r :: rs) (d :: ds) := by
  subst e; exact ⟨by show Co η (get σ r) _; rw [h]; rfl, h2⟩
theorem RV_n {r : Nat} {rs : List ResultVar} {ds : List D} {d : D} (h : get σ r = .nil) (h2 : RVals P σ η rs ds) (e : D.slice [] = d) : RVals P σ η (.tmp r :: rs) (d :: ds) := by
  subst e; exact ⟨by show Co η (get σ r) _; rw [h]; exact .inl rfl, h2⟩
theorem RV_b {r : Nat} {rs : List ResultVar} {ds : List D} {d : D} {id n e sz : Nat} {xs : List D} (h : get σ r = .buf id n) (ho : η[id]? = some (.buf false e sz xs)) (hn : n = xs.length) (h2 : RVals P σ η rs ds) (he : D.slice xs = d) : RVals P σ η (.tmp r :: rs) (d :: ds) := by
  subst he; exact ⟨by show Co η (get σ r) _; rw [h]; exact Co_buf ho hn, h2⟩
theorem RV_c {a t id o n : Nat} {kb : Option Nat} {et : Option TypeId} {cs : List SV} {ds' : List D} {d : D} {rs : List ResultVar} {ds : List D} (h : get σ a = .ptr id o) (ho : η[id]? = some (.bx kb et cs)) (ht : tyCells P t = some (true, n)) (hl : Nat.ble (o + n) cs.length = true) (hs : toDs ((cs.drop o).take n) = some ds') (h2 : RVals P σ η rs ds) (e : D.agg ds' = d) : RVals P σ η (.cell a t :: rs) (d :: ds) := by
  subst e; exact ⟨⟨id, o, n, kb, et, cs, h, ho, .inl ⟨ht, Nat.le_of_ble_eq_true hl, ds', CoV_ds hs, rfl⟩⟩, h2⟩
theorem RV_c1 {a t id o n : Nat} {kb : Option Nat} {et : Option TypeId} {cs : List SV} {d d' : D} {rs : List ResultVar} {ds : List D} (h : get σ a = .ptr id o) (ho : η[id]? = some (.bx kb et cs)) (ht : tyCells P t = some (false, n)) (hs : cs[o]? = some (.d d')) (h2 : RVals P σ η rs ds) (e : d' = d) : RVals P σ η (.cell a t :: rs) (d :: ds) := by
  subst e; exact ⟨⟨id, o, n, kb, et, cs, h, ho, .inr ⟨ht, _, hs, rfl⟩⟩, h2⟩
end

theorem RVal.run {P : Program} {r : ResultVar} {σ : Sl} {η : List Ob} {d : D} {g : Gh} {w : World} {a : Act} {C : Ctx} (h : RVal P σ η r d) (ha : AbsG C g σ η a w) : ∃ v, (rvRun a.tmps r).run P w = .ok v w ∧ RepD g.St w v d := by
  cases r with
  | tmp r => exact ⟨_, rfl, Co.rep ha.inv (ha.rep r) h⟩
  | cell r t =>
    obtain ⟨id, o, n, kb, et, cs, h0, ho, h⟩ := h
    have h1 := ha.rep r; rw [h0] at h1
    obtain ⟨hid, b, hb, hv⟩ := h1
    obtain ⟨b', e, us, h2, h3, h4, h5, h6, h7, _⟩ := ha.inv.ob id _ ho
    rw [hb] at h2; injection h2 with h2; subst h2
    rcases h with ⟨ht, hl, ds, hs, rfl⟩ | ⟨ht, s, hs, hc⟩
    · have hrun := run_loadCells_list (P := P) w ⟨b, o, none⟩ ((us.toList.drop o).take n) (fun j v hj => by
        rw [List.getElem?_take] at hj
        split at hj
        · rw [Addr.add_lit, cell_of_row w b _ us e (0, 0) h3]
          simpa using hj
        · cases hj)
      have hlen : ((us.toList.drop o).take n).length = n := by rw [List.length_take, List.length_drop, Array.length_toList]; omega
      rw [hlen] at hrun
      have e1 := hs.len
      have hcl : ((cs.drop o).take n).length = n := by rw [List.length_take, List.length_drop]; omega
      refine ⟨.agg ((us.toList.drop o).take n).toArray, ?_, .agg _ _ (by omega) (fun u hm => h5 u (Array.mem_toList_iff.1 (List.mem_of_mem_drop (List.mem_of_mem_take hm)))) (fun j u d hj hd => ?_)⟩
      · simp only [rvRun, hv, asAddr, loadVar, Sem.run_bind, Sem.run_pure, Result.andThen_ok, (tyCells_some ht w).1, (tyCells_some ht w).2, if_true, hrun]
      · have hjl : j < n := by
          have := (List.getElem?_eq_some_iff.1 hj).1; omega
        have hsj : ((cs.drop o).take n)[j]? = some (((cs.drop o).take n)[j]'(by omega)) := List.getElem?_eq_getElem (by omega)
        refine Co.rep ha.inv (h6 (o + j) u _ ?_ ?_) (hs.get j _ d hsj hd)
        · rw [List.getElem?_take, if_pos hjl] at hj; simpa using hj
        · rw [← hsj, List.getElem?_take, if_pos hjl]; simp
    · have hlt : o < us.size := by rw [h4]; exact (List.getElem?_eq_some_iff.1 hs).1
      refine ⟨us[o], ?_, Co.rep ha.inv (h6 o _ _ (Array.getElem?_eq_getElem hlt) hs) hc⟩
      have hcell : w.cell? ⟨b, o, none⟩ = some us[o] := by rw [cell_of_row w b o us e (0, 0) h3]; exact Array.getElem?_eq_getElem hlt
      simp [rvRun, hv, asAddr, loadVar, (tyCells_some ht w).1, hcell]

theorem RVals.run {P : Program} {σ : Sl} {η : List Ob} {g : Gh} {w : World} {a : Act} {C : Ctx} (ha : AbsG C g σ η a w) : ∀ {rs : List ResultVar} {ds : List D}, RVals P σ η rs ds → ∃ vs : List Value, rs.length = vs.length ∧ vs.length = ds.length ∧ (∀ (j : Nat) r v, rs[j]? = some r → vs[j]? = some v → (rvRun a.tmps r).run P w = .ok v w) ∧ ∀ (j : Nat) v d, vs[j]? = some v → ds[j]? = some d → RepD g.St w v d
  | [], [], _ => ⟨[], rfl, rfl, fun j r v h => by simp at h, fun j v d h => by simp at h⟩
  | r :: rs, d :: ds, h => by
    obtain ⟨v, h1, h2⟩ := h.1.run ha
    obtain ⟨vs, e1, e2, e3, e4⟩ := RVals.run ha h.2
    refine ⟨v :: vs, by simp [e1], by simp [e2], fun j r' v' hr hv => ?_, fun j v' d' hv hd => ?_⟩
    · cases j with
      | zero => simp at hr hv; subst hr; subst hv; exact h1
      | succ j => exact e3 j r' v' (by simpa using hr) (by simpa using hv)
    · cases j with
      | zero => simp at hv hd; subst hv; subst hd; exact h2
      | succ j => exact e4 j v' d' (by simpa using hv) (by simpa using hd)
  | [], _ :: _, h => h.elim
  | _ :: _, [], h => h.elim

theorem ResC.run {rs : Array ResultVar} {σ : Sl} {η : List Ob} {res : D} {P : Program} {fn : Func} {g : Gh} {w : World} {a : Act} {C : Ctx} (hrs : fn.results = rs) (h : ResC P rs σ η res) (ha : AbsG C g σ η a w) : ∃ v, (results fn a.tmps).run P w = .ok v w ∧ RepD g.St w v res := by
  obtain ⟨rl⟩ := rs
  unfold ResC at h
  split at h
  · rename_i r hr
    simp at hr; subst hr
    obtain ⟨v, h1, h2⟩ := h.run ha
    refine ⟨v, results_list (l := [r]) (vs := [v]) hrs rfl (fun j r' v' hr hv => ?_), h2⟩
    cases j with
    | zero => simp at hr hv; subst hr; subst hv; exact h1
    | succ j => simp at hr
  · rename_i ds hne
    obtain ⟨vs, e1, e2, e3, e4⟩ := RVals.run ha h
    refine ⟨tupV vs, results_list hrs e1 e3, ?_⟩
    have e5 : tupV vs = .tuple vs.toArray := by
      match vs, rl with
      | [], _ => rfl
      | [v], [r] => exact absurd rfl (hne r)
      | [v], [] => simp at e1
      | [v], _ :: _ :: _ => simp at e1
      | v :: u :: r, _ => rfl
    rw [e5]; exact .tup vs ds e2 e4
  · exact h.elim

/-- A FUNCTION IS ENTERED, whose results may lie in cells. -/
theorem pcall_ofC {P : Program} {f : FuncId} {fn : Func} {c : Code} {ds : List D} {res : D} {N : Nat} {rs : Array ResultVar} (hf : P.funcs[f]? = some fn) (hb : fn.body = some c) (hN : fn.ntmps = N) (hrs : fn.results = rs) (hl : Nat.ble ds.length N = true)
    (h : ∀ (w0 : World) (St0 : Stab), awp ⟨P, N, w0, St0, fun _ => False, 0⟩ c (rpostC P rs res) (args0 ds 0) []) : PCall P f ds res := by
  intro St w vs hst hgl hrep
  subst hN
  have hl := Nat.le_of_ble_eq_true hl
  have hlen := hrep.len
  refine calls_of_wp hf hb (h w St _ ?_ _ _ ?_)
  · intro e σ' η' a' w' hq ⟨g, ha⟩
    have fin : ResC P rs σ' η' res → a'.defers = [] ∧ ∃ v, (results fn a'.tmps).run P w' = .ok v w' ∧ ∃ v_1 St', Ending.returned v = .returned v_1 ∧ RepD St' w' v_1 res ∧ Below w.heap.size w w' ∧ Keep St w St' w' ∧
      (∀ b o, St' b o → St b o ∨ w.heap.size ≤ b) ∧ (∀ b o, St' b o → b < w'.heap.size) := by
      intro hq
      obtain ⟨v, hr, hd⟩ := hq.run (P := P) hrs ha
      refine ⟨ha.defers, v, hr, v, g.St, rfl, hd, ⟨ha.os, ha.tape, ha.output, ha.wsize, fun k hk => ha.heap k hk (fun h => h)⟩, ha.keep, fun b o hb => ?_, ha.inv.st⟩
      rcases ha.new b o hb with h1 | h1 | h1
      · exact .inl h1
      · exact .inr h1
      · exact h1.elim
    cases e <;> first | exact fin hq | exact hq.elim
  · refine ⟨⟨St, fun _ => none, fun _ => 0, fun _ => 0, 0⟩, rfl, ?_, ⟨rfl, fun _ _ h => by simp at h, fun _ _ => rfl, fun _ _ _ h => by simp at h, fun _ _ h => by simp at h, hst, hgl⟩, rfl, rfl, rfl, Nat.le_refl _, fun _ _ _ => rfl, Keep.refl St w, fun _ _ h => .inl h, fun _ _ h => by simp at h, ?_⟩
    · simp [hlen]; omega
    · refine args0_rep vs ds 0 _ hrep fun j v hj => ?_
      have hjl : j < vs.length := (List.getElem?_eq_some_iff.1 hj).1
      simp only [Nat.zero_add, Array.getD_eq_getD_getElem?]
      rw [Array.getElem?_append_left (by simpa using hjl)]
      simp [hj]

theorem qcall_ofC {P : Program} {f : FuncId} {fn : Func} {c : Code} {as : List SV} {pre : List Ob} {res : D} {N : Nat} {rs : Array ResultVar} (hf : P.funcs[f]? = some fn) (hb : fn.body = some c) (hN : fn.ntmps = N) (hrs : fn.results = rs) (hl : Nat.ble as.length N = true)
    (h : ∀ (w0 : World) (St0 : Stab), awp ⟨P, N, w0, St0, fun _ => False, pre.length⟩ c (rpostC P rs res) (sargs as 0) pre) : QCall P f as pre res := by
  intro g w vs hi hrep
  subst hN
  have hl := Nat.le_of_ble_eq_true hl
  have hlen := hrep.len
  refine calls_of_wp hf hb (h w g.St _ ?_ _ _ ?_)
  · intro e σ' η' a' w' hq ⟨g', ha⟩
    have fin : ResC P rs σ' η' res → a'.defers = [] ∧ ∃ v, (results fn a'.tmps).run P w' = .ok v w' ∧ ∃ v_1 St', Ending.returned v = .returned v_1 ∧ RepD St' w' v_1 res ∧ Below w.heap.size w w' ∧ Keep g.St w St' w' ∧
      (∀ b o, St' b o → g.St b o ∨ w.heap.size ≤ b) ∧ (∀ b o, St' b o → b < w'.heap.size) := by
      intro hq
      obtain ⟨v, hr, hd⟩ := hq.run (P := P) hrs ha
      refine ⟨ha.defers, v, hr, v, g'.St, rfl, hd, ⟨ha.os, ha.tape, ha.output, ha.wsize, fun k hk => ha.heap k hk (fun h => h)⟩, ha.keep, fun b o hb => ?_, ha.inv.st⟩
      rcases ha.new b o hb with h1 | h1 | h1
      · exact .inl h1
      · exact .inr h1
      · exact h1.elim
    cases e <;> first | exact fin hq | exact hq.elim
  · refine ⟨g, rfl, ?_, hi, rfl, rfl, rfl, Nat.le_refl _, fun _ _ _ => rfl, Keep.refl g.St w, fun _ _ h => .inl h, fun i b hb hr => ?_, ?_⟩
    · simp [hlen]; omega
    · exfalso
      have h1 : pre.length ≤ i := hr
      have h2 := hi.dead i (by rw [hi.n]; exact h1)
      rw [hb] at h2; cases h2
    · refine sargs_rep vs as 0 _ hrep fun j v hj => ?_
      have hjl : j < vs.length := (List.getElem?_eq_some_iff.1 hj).1
      simp only [Nat.zero_add, Array.getD_eq_getD_getElem?]
      rw [Array.getElem?_append_left (by simpa using hjl)]
      simp [hj]
end Go.Sx
/- The engine: rows within a region: what one holds stays from now on; an empty one is the call's own again. -/
namespace Go.Sx
open Go.RowKit Go.Lib
section
variable {C : Ctx} {ops : Array Oper} {rest : List Oper} {K : Sl → List Ob → Prop} {σ : Sl} {η : List Ob}
theorem alex_freeze (id : Nat) {mu : Bool} {e sz : Nat} {xs : List D} (ho : η[id]? = some (.buf mu e sz xs)) (_hmu : mu = true) (hro : Nat.ble C.ro id = true) (h : alex C false ops rest K σ (η.set id (.buf false e sz xs))) : alex C false ops rest K σ η := by
  intro Q hQ a w ⟨g, ha⟩
  refine h Q hQ a w ?_
  have hidl : id < η.length := (List.getElem?_eq_some_iff.1 ho).1
  have hro := Nat.le_of_ble_eq_true hro
  obtain ⟨o1, o2, o3, o4, o5⟩ := ha.inv.ob id _ ho
  let g' : Gh := { g with St := fun b o => g.St b o ∨ (g.blk id = some b ∧ o < xs.length * sz) }
  have kp : Keep g.St w g'.St w := ⟨fun _ _ h => .inl h, fun _ _ _ _ h => h, fun _ _ => rfl⟩
  have re : ∀ {v : Value} {s : SV}, RepS g w v s → RepS g' w v s := fun r => r.ext kp (fun _ _ => ⟨rfl, rfl, rfl⟩) (Nat.le_refl _)
  have lt : ∀ b o, g'.St b o → b < w.heap.size := fun b o hb => by
    rcases hb with hb | ⟨hb, _⟩
    · exact ha.inv.st b o hb
    · exact ha.inv.lt id b hb
  refine ⟨g', ha.defers, ha.size, ⟨by rw [List.length_set]; exact ha.inv.n, ha.inv.lt, ha.inv.dead, ha.inv.inj, fun i o hi => ?_, lt, ha.inv.gl.keep kp⟩, ha.os, ha.tape, ha.output, ha.wsize, ha.heap, ha.keep.trans kp, fun b o hb => ?_, ha.own, fun t => re (ha.rep t)⟩
  · rw [List.getElem?_set] at hi
    split at hi
    · rename_i e; subst e
      try rw [if_pos hidl] at hi
      injection hi with hi; subst hi
      refine ⟨o1, o2, o3, o4, ?_⟩
      rcases o5 with o5 | ⟨b, us, h1, h2, h3, h4, h5, h6⟩
      · exact .inl o5
      · refine .inr ⟨b, us, h1, h2, h3, h4, fun j u d hu hd => (h5 j u d hu hd).keep kp, fun o => ⟨fun hb => ?_, fun hb => .inr ⟨h1, hb.2⟩⟩⟩
        rcases hb with hb | ⟨_, hb⟩
        · exact ⟨rfl, ((h6 o).1 hb).2⟩
        · exact ⟨rfl, hb⟩
    · rename_i e
      refine (ha.inv.ob i o hi).ext kp (fun _ _ => ⟨rfl, rfl, rfl⟩) (Nat.le_refl _) (by rw [ha.inv.n]; exact (List.getElem?_eq_some_iff.1 hi).1) (fun b hb => ⟨rfl, fun o => ⟨fun ho => ?_, fun h => .inl h⟩⟩)
      rcases ho with ho | ⟨ho, _⟩
      · exact ho
      · exact absurd (ha.inv.inj i id b hb ho) (fun h => e h.symm)
  · rcases hb with hb | ⟨hb, _⟩
    · exact ha.new b o hb
    · exact (ha.own id b hb hro).elim (fun h => .inr (.inl h)) (fun h => .inr (.inr h))
theorem alex_thaw (id : Nat) {e sz : Nat} (ho : η[id]? = some (.buf false e sz [])) (h : alex C false ops rest K σ (η.set id (.buf true e sz []))) : alex C false ops rest K σ η := by
  intro Q hQ a w ⟨g, ha⟩
  refine h Q hQ a w ⟨g, { ha with inv := { ha.inv with n := by rw [List.length_set]; exact ha.inv.n, ob := fun i o hi => ?_ } }⟩
  rw [List.getElem?_set] at hi
  split at hi
  · rename_i hc; subst hc
    split at hi
    · injection hi with hi; subst hi
      obtain ⟨h1, h2, h3, h4, h5⟩ := ha.inv.ob id _ ho
      refine ⟨h1, h2, h3, h4, h5.imp (fun h => h) ?_⟩
      rintro ⟨b, us, g1, g2, g3, g4, g5, g6⟩
      exact ⟨b, us, g1, g2, g3, g4, g5, fun o => by rw [g6]; simp⟩
    · cases hi
  · exact ha.inv.ob i o hi
end
end Go.Sx
