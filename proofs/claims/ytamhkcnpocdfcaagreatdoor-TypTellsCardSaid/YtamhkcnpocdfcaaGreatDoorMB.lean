/- Texts of this claim, merged: SxQ, SxR, SxS, SxT, SxFl, SxU, SxV, SxW, SxX, SxY, SxZ, SxAA, SxAB, SxAC, SxAD, SxAE. -/
import Derived.Laws.RangeAny
import Derived.Laws.Strings3
import Derived.Laws.Unary
import Derived.Laws.Slices
import Derived.Laws.BytesString
import Ieee.Arith
import Derived.Lib.AppendStr
import Derived.Lib.UnsafeStr
import Derived.Laws.FloatArith
import Derived.Lib.Builder
import Derived.Laws.Pointers
import Derived.Laws.Externs
import Derived.Laws.Sem
import Derived.MapKept
import Derived.Maps.RangeRun
import Derived.Laws.Cover3
import Derived.Test.YtamhkcnpocdfcaaGreatDoorMA
/- The engine: texts (as lists of bytes), ranges over them; contracts of functions of plain values. -/
namespace Go.Sx
open Go.RowKit

/-- a text -/
abbrev str (l : List UInt8) : D := .val (.string ⟨l.toArray⟩)
abbrev i64 (n : Int) : D := .val (.int .i64 n)
abbrev bl (b : Bool) : D := .val (.bool b)
abbrev u64 (n : Int) : D := .val (.int .u64 n)
theorem str_size (l : List UInt8) : (⟨l.toArray⟩ : ByteArray).size = l.length := by simp [ByteArray.size]

section
variable {P : Program} {η : List Ob} {σ : Sl} {dst : Option Nat} {ty : TypeId} {pos : String} {after : Array Edge} {gd : Option (Nat × Bool)} {t yt : TypeId} {x y z : Operand}
theorem Y_len_l {l : List UInt8} (hx : oval σ x = .d (str l)) (hu : P.underlying t = some .string) : Ylds P η σ ⟨dst, .call ⟨.builtin .len, #[x], #[t]⟩, ty, pos, after, gd⟩ (.d (.val (.int .i64 (l.length : Int)))) := by
  have := Y_len_str (dst := dst) (ty := ty) (pos := pos) (after := after) (gd := gd) (η := η) hx hu
  rwa [str_size] at this
theorem Y_idx_l {l : List UInt8} {k : IntKind} {i : Int} (hx : oval σ x = .d (str l)) (hy : oval σ y = .d (.val (.int k i))) (hu : P.underlying t = some .string) (h0 : 0 ≤ i ∧ i < (l.length : Int)) : Ylds P η σ ⟨dst, .index t x y, ty, pos, after, gd⟩ (.d (.val (.int .u8 ((l.getD i.toNat 0).toNat : Int)))) := by
  refine Ylds.same fun g w a hi h => ⟨_, ?_, .val _⟩
  have h1 := h x (by simp [Op.operands]); rw [hx] at h1
  have h2 := h y (by simp [Op.operands]); rw [hy] at h2
  have hlt : i.toNat < l.length := by omega
  have hc : 0 ≤ i ∧ i < ((⟨l.toArray⟩ : ByteArray).size : Int) := by rw [str_size]; exact h0
  simp only [execOp, RepD.val_eq h1, RepD.val_eq h2, Sem.run_bind, run_index_string w t _ k i hu, dif_pos hc, Result.andThen_ok, Sem.run_pure]
  have : (⟨l.toArray⟩ : ByteArray)[i.toNat]'(by rw [str_size]; exact hlt) = l.getD i.toNat 0 := by
    rw [List.getD_eq_getElem?_getD, List.getElem?_eq_getElem hlt]; rfl
  rw [this]
theorem Y_sub_l {l : List UInt8} {k k' : IntKind} {i j : Int} (hx : oval σ x = .d (str l)) (hy : oval σ y = .d (.val (.int k i))) (hz : oval σ z = .d (.val (.int k' j))) (hu : P.underlying t = some .string) (h0 : 0 ≤ i ∧ i ≤ j ∧ j ≤ (l.length : Int)) : Ylds P η σ ⟨dst, .slice t x (some y) (some z) none, ty, pos, after, gd⟩ (.d (str ((l.drop i.toNat).take (j.toNat - i.toNat)))) := by
  refine Ylds.same fun g w a hi h => ⟨_, ?_, .val _⟩
  have h1 := h x (by simp [Op.operands]); rw [hx] at h1
  have h2 := h y (by simp [Op.operands]); rw [hy] at h2
  have h3 := h z (by simp [Op.operands]); rw [hz] at h3
  simp only [execOp, RepD.val_eq h1, RepD.val_eq h2, RepD.val_eq h3, Option.map_some, Option.map_none, Sem.run_bind, run_sliceAt_string w t _ _ _ _ hu, run_slice_string w t _ k k' i j hu h0.1 h0.2.1 (by rw [str_size]; exact h0.2.2), Result.andThen_ok, Sem.run_pure, ByteArray.extract_mk]
theorem Y_drop_l {l : List UInt8} {k : IntKind} {i : Int} (hx : oval σ x = .d (str l)) (hy : oval σ y = .d (.val (.int k i))) (hu : P.underlying t = some .string) (h0 : 0 ≤ i ∧ i ≤ (l.length : Int)) : Ylds P η σ ⟨dst, .slice t x (some y) none none, ty, pos, after, gd⟩ (.d (str (l.drop i.toNat))) := by
  refine Ylds.same fun g w a hi h => ⟨_, ?_, .val _⟩
  have h1 := h x (by simp [Op.operands]); rw [hx] at h1
  have h2 := h y (by simp [Op.operands]); rw [hy] at h2
  have e : (l.drop i.toNat).take (l.length - i.toNat) = l.drop i.toNat := List.take_of_length_le (by simp)
  simp only [execOp, RepD.val_eq h1, RepD.val_eq h2, Option.map_some, Option.map_none, Sem.run_bind, run_sliceAt_string w t _ _ _ _ hu, run_slice_string_from_if w t _ k i hu, Sem.run_pure, ByteArray.extract_mk, str_size, e]
  rw [if_pos h0]; rfl
theorem Y_eqs {a b : List UInt8} (hx : oval σ x = .d (str a)) (hy : oval σ y = .d (str b)) : Ylds P η σ ⟨dst, .binOp .eql t x y yt, ty, pos, after, gd⟩ (.d (.val (.bool (decide (a = b))))) :=
  Y_bin hx hy fun w => by
    simp only [eqGuard_at_string, binOp_string_eql, Sem.run_bind, Sem.run_pure, Result.andThen_ok, ByteArray.toList_mk]
    by_cases h : a = b <;> simp [h]
theorem Y_neqs {a b : List UInt8} (hx : oval σ x = .d (str a)) (hy : oval σ y = .d (str b)) : Ylds P η σ ⟨dst, .binOp .neq t x y yt, ty, pos, after, gd⟩ (.d (.val (.bool (decide (a ≠ b))))) :=
  Y_bin hx hy fun w => by
    simp only [eqGuard_at_string, binOp_string_neq, Sem.run_bind, Sem.run_pure, Result.andThen_ok, ByteArray.toList_mk]
    by_cases h : a = b <;> simp [h]
theorem Y_cat_l {a b : List UInt8} (hx : oval σ x = .d (str a)) (hy : oval σ y = .d (str b)) (hl : (a.length : Int) + b.length ≤ 9223372036854775807) : Ylds P η σ ⟨dst, .binOp .add t x y yt, ty, pos, after, gd⟩ (.d (str (a ++ b))) := by
  have := Y_cat (P := P) (η := η) (dst := dst) (ty := ty) (pos := pos) (after := after) (gd := gd) (t := t) (yt := yt) hx hy (by rw [str_size, str_size]; exact hl)
  rwa [ByteArray.mk_append_mk] at this
theorem Y_neg {k : IntKind} {n : Int} (hx : oval σ x = .d (.val (.int k n))) : Ylds P η σ ⟨dst, .unOp .neg t x, ty, pos, after, gd⟩ (.d (.val (.int k (k.wrap (0 - n))))) := Y_un hx rfl
theorem foldl_bytes : ∀ (ns : List Int) (r : ByteArray), ns.foldl (fun r n => r.push (UInt8.ofNat n.toNat)) r = ⟨r.data ++ (ns.map fun n => UInt8.ofNat n.toNat).toArray⟩
  | [], r => by simp
  | n :: ns, r => by
    rw [List.foldl_cons, foldl_bytes ns]
    simp [ByteArray.push]
/-- bytes as a text -/
theorem Y_b2s {e src tdst : TypeId} {ns : List Int} (hx : oval σ x = .d (.slice (ns.map fun n => .val (.int .u8 n)))) (hs : P.underlying src = some (.slice e)) (he : P.underlying e = some (.int .u8)) (hd : P.underlying tdst = some .string) (h0 : ns ≠ []) :
    Ylds P η σ ⟨dst, .convert src tdst x, ty, pos, after, gd⟩ (.d (str (ns.map fun n => UInt8.ofNat n.toNat))) := by
  refine Ylds.same fun g w a hi h => ?_
  have h1 := h x (by simp [Op.operands]); rw [hx] at h1
  change RepD _ _ _ _ at h1
  generalize hv : a.eval x = v at h1
  cases h1 with
  | slice ad len cap sz _ us hlen hcap hm hsz hus h1c hcell hr =>
    have hfl : flats (ns.map fun n => D.val (.int .u8 n)) = ns.map fun n => D.val (.int .u8 n) := by
      clear hv hus hr hcell hlen h hx h0 hsz
      induction ns with
      | nil => rfl
      | cons n ns ih => simp only [List.map_cons, flats, List.flatMap_cons, D.flat] at ih ⊢; rw [ih]; rfl
    have hpos : 0 < (ns.map fun n => D.val (.int .u8 n)).length := by
      rw [List.length_map]; cases ns with
      | nil => exact absurd rfl h0
      | cons => simp
    obtain ⟨ad, rfl, hc⟩ := hcell hpos
    have hul : us.length = ns.length := by rw [hus, hfl, List.length_map]
    have eus : us = ns.map (Value.int .u8) := by
      refine List.ext_getElem? fun j => ?_
      rcases Nat.lt_or_ge j ns.length with hj | hj
      · have e1 : us[j]? = some (us[j]'(by omega)) := List.getElem?_eq_getElem (by omega)
        have e2 : (flats (ns.map fun n => D.val (.int .u8 n)))[j]? = some (.val (.int .u8 ns[j])) := by rw [hfl, List.getElem?_map, List.getElem?_eq_getElem hj]; rfl
        rw [e1, RepD.val_eq (hr j _ _ e1 e2), List.getElem?_map, List.getElem?_eq_getElem hj]; rfl
      · rw [List.getElem?_eq_none (by omega), List.getElem?_eq_none (by simp; omega)]
    have hld := run_loadCells_list (P := P) w ad us (fun j v hj => (hc j v hj).2)
    refine ⟨_, ?_, .val _⟩
    have hlen' : len = us.length := by rw [hlen, List.length_map, hul]
    simp only [execOp, hv, Sem.run_bind, run_convert_bytes_string w src tdst e (some ad) len cap hs he hd]
    rw [run_bytesToString w ad len cap ns (by rw [hlen', hld, eus])]
    simp only [Result.andThen_ok, Sem.run_pure, foldl_bytes]
    simp
end

/-! ### a range over a text -/
section
variable {C : Ctx} {σ : Sl} {η : List Ob}
theorem AbsG.setIter {g : Gh} {a : Act} {w : World} (h : AbsG C g σ η a w) {id b : Nat} {s : ByteArray} {p p' : Nat} (hid : η[id]? = some (.iter s p)) (hb : g.blk id = some b) (hro : C.ro ≤ id)
    (hst : ∀ o, ¬ g.St b o) :
    AbsG C g σ (η.set id (.iter s p')) a { w with heap := w.heap.setIfInBounds b (.stringIter s p') } := by
  have hoth : ∀ k, k ≠ b → (w.heap.setIfInBounds b (.stringIter s p'))[k]? = w.heap[k]? := fun k hk => by rw [Array.getElem?_setIfInBounds_ne (fun e => hk e.symm)]
  have hbl := h.inv.lt id b hb
  have kp : Keep g.St w g.St { w with heap := w.heap.setIfInBounds b (.stringIter s p') } := ⟨fun _ _ h => h, fun c o u hc hu => (World.cell?_of_block (a := ⟨c, o, none⟩) (hoth c (fun e => hst o (e ▸ hc)))).trans hu, fun c hc => hoth c (fun e => hst 0 (e ▸ hc 0))⟩
  have rk : ∀ {v : Value} {s' : SV}, RepS g w v s' → RepS g { w with heap := w.heap.setIfInBounds b (.stringIter s p') } v s' := fun r => r.ext kp (fun _ _ => ⟨rfl, rfl, rfl⟩) (Nat.le_refl _)
  have hidl : id < η.length := (List.getElem?_eq_some_iff.1 hid).1
  refine ⟨h.defers, h.size, ⟨by rw [List.length_set]; exact h.inv.n, fun i c hc => by simpa using h.inv.lt i c hc, h.inv.dead, h.inv.inj, fun i o ho => ?_, fun c o hc => by simpa using h.inv.st c o hc, h.inv.gl.keep kp⟩, h.os, h.tape, h.output, by simpa using h.wsize,
    fun k hk hx => ?_, h.keep.trans kp, h.new, h.own, fun t => rk (h.rep t)⟩
  · rw [List.getElem?_set] at ho
    split at ho
    · rename_i hc; subst hc
      try rw [if_pos hidl] at ho
      injection ho with ho; subst ho
      exact ⟨b, hb, by simp [hbl], hst⟩
    · rename_i hc
      refine (h.inv.ob i o ho).ext kp (fun _ _ => ⟨rfl, rfl, rfl⟩) (Nat.le_refl _) (by rw [h.inv.n]; exact (List.getElem?_eq_some_iff.1 ho).1) (fun c hcb => ⟨hoth c (fun e => ?_), fun _ => Iff.rfl⟩)
      subst e
      exact hc (h.inv.inj id i c hb hcb)
  · show (w.heap.setIfInBounds b (.stringIter s p'))[k]? = _
    rw [hoth k (fun e => ?_)]
    · exact h.heap k hk hx
    · subst e
      rcases h.own id k hb hro with h2 | h2
      · omega
      · exact hx h2

theorem absIter {g : Gh} {a : Act} {w : World} {d : Nat} (ha : AbsG C g σ η a w) (s : ByteArray) (hd : Nat.blt d C.N = true) (hro : C.ro ≤ η.length) :
    Abs C ((d, .ptr η.length 0) :: σ) (η ++ [.iter s 0]) (a.put (some d) (.pointer (some ⟨w.heap.size, 0, none⟩))) (w.alloc (.stringIter s 0)) := by
  have hn := ha.inv.n
  let g' : Gh := { g with blk := upd g.blk g.n (some w.heap.size), n := g.n + 1 }
  have hold : ∀ id, id < g.n → g'.blk id = g.blk id ∧ g'.cap id = g.cap id ∧ g'.sz id = g.sz id := fun id hid => ⟨by simp [g', upd, Nat.ne_of_lt hid], rfl, rfl⟩
  have hbn : g'.blk g.n = some w.heap.size := by simp [g', upd]
  have hab := ha.newOb (g' := g') (w' := w.alloc (.stringIter s 0)) (.iter s 0) rfl rfl rfl (by simp) (fun k hk => Below.heap_alloc w _ k hk) rfl hold
    (fun id hid => by
      have hne : id ≠ g.n := by omega
      simp only [g', upd, if_neg hne]
      exact ha.inv.dead id (by omega)) (fun b hb => by rw [hbn] at hb; injection hb with hb; subst hb; simp) (fun _ _ h => h) (fun _ _ h => .inl h) (fun b o hb => Nat.lt_of_lt_of_le (ha.inv.st b o hb) (by simp)) (by rw [hn]; exact hro)
    ⟨w.heap.size, hbn, _root_.Go.World.iter_heap w s 0, fun o ho => absurd (ha.inv.st _ o ho) (by omega)⟩
  exact ⟨g', hab.put (d := some d) hd ⟨by show η.length < g.n + 1; omega, w.heap.size, by rw [← hn]; exact hbn, rfl⟩⟩
end

section
variable {C : Ctx} {ops : Array Oper} {rest : List Oper} {K : Sl → List Ob → Prop} {σ : Sl} {η : List Ob} {d : Nat} {ty : TypeId} {pos : String} {after : Array Edge} {gd : Option (Nat × Bool)} {t : TypeId} {x : Operand}
theorem aRange {s : ByteArray} (hx : oval σ x = .d (.val (.string s))) (hu : C.P.underlying t = some .string) (hd : Nat.blt d C.N = true) (hro : Nat.ble C.ro η.length = true)
    (h : alex C false ops rest K ((d, .ptr η.length 0) :: σ) (η ++ [.iter s 0])) : astep C false ops ⟨some d, .range t x, ty, pos, after, gd⟩ rest K σ η := by
  refine estep (fun g a w ha => ?_) h
  have hr := ha.eval x
  rw [hx] at hr
  refine ⟨_, _, ?_, absIter ha s hd (Nat.le_of_ble_eq_true hro)⟩
  simp only [execOp, RepD.val_eq hr, Sem.run_bind, run_range_string w t s hu, Result.andThen_ok, Sem.run_pure]
  rfl

/-- the next rune, or none -/
theorem aNext {id p : Nat} {s : ByteArray} (hx : oval σ x = .ptr id 0) (ho : η[id]? = some (.iter s p)) (hd : Nat.blt d C.N = true) (hro : Nat.ble C.ro id = true)
    (h1 : p < s.size → alex C false ops rest K ((d, .d (.tup [.val (.bool true), .val (.int .i64 (p : Int)), .val (.int .i32 ((Utf8.decode s p).1 : Int))])) :: σ) (η.set id (.iter s (p + (Utf8.decode s p).2))))
    (h2 : ¬ p < s.size → alex C false ops rest K ((d, .d (.tup [.val (.bool false)])) :: σ) η) : astep C false ops ⟨some d, .next x true, ty, pos, after, gd⟩ rest K σ η := by
  by_cases hc : p < s.size
  · refine estep (fun g a w ha => ?_) (h1 hc)
    have hr := ha.eval x
    rw [hx] at hr
    obtain ⟨hidn, b, hb, hv⟩ := hr
    obtain ⟨b', hb', hh, hst⟩ := ha.inv.ob id _ ho
    rw [hb] at hb'; injection hb' with hb'; subst hb'
    have hbl := ha.inv.lt id b hb
    have hh' : w.heap[b]'hbl = .stringIter s p := by
      have := Array.getElem?_eq_getElem hbl; rw [hh] at this; injection this with this; exact this.symm
    refine ⟨.tuple #[.bool true, .int .i64 (p : Int), .int .i32 ((Utf8.decode s p).1 : Int)], _, ?_, g, (ha.setIter (p' := p + (Utf8.decode s p).2) ho hb (Nat.le_of_ble_eq_true hro) hst).put (d := some d) hd ?_⟩
    · simp only [execOp, hv, Instr.next, getObj, setObj, Sem.run_bind, Sem.run, hh, Result.andThen, hc, if_true]
      simp [goInt]
    · refine .tup [_, _, _] _ rfl fun j u d' hu hd' => ?_
      match j with
      | 0 => simp at hu hd'; subst hu; subst hd'; exact .val _
      | 1 => simp at hu hd'; subst hu; subst hd'; exact .val _
      | 2 => simp at hu hd'; subst hu; subst hd'; exact .val _
      | j + 3 => simp at hu
  · refine estep (fun g a w ha => ?_) (h2 hc)
    have hr := ha.eval x
    rw [hx] at hr
    obtain ⟨hidn, b, hb, hv⟩ := hr
    obtain ⟨b', hb', hh, hst⟩ := ha.inv.ob id _ ho
    rw [hb] at hb'; injection hb' with hb'; subst hb'
    refine ⟨.tuple #[.bool false], w, ?_, g, ha.put (d := some d) hd ?_⟩
    · simp [execOp, hv, Instr.next, getObj, Sem.run, hh, hc]
    · refine .tup [_] _ rfl fun j u d' hu hd' => ?_
      match j with
      | 0 => simp at hu hd'; subst hu; subst hd'; exact .val _
      | j + 1 => simp at hu
end

/-! ### contracts of functions of plain values -/
theorem RepDs.vals {St : Stab} {w : World} : ∀ {vs us : List Value}, RepDs St w vs (us.map .val) → vs = us
  | [], [], _ => rfl
  | v :: vs, u :: us, h => by rw [RepD.val_eq h.1, RepDs.vals h.2]
  | [], _ :: _, h => h.elim
  | _ :: _, [], h => h.elim

theorem pcall_plain {P : Program} {f : FuncId} {us : List Value} {r : Value} {d : D} (hd : ∀ St w, RepD St w r d)
    (h : ∀ St w, Glob St w → Calls P f us.toArray w (fun e w' => e = .returned r ∧ Below w.heap.size w w')) : PCall P f (us.map .val) d := by
  intro St w vs hst hgl hr
  rw [RepDs.vals hr]
  refine (h St w hgl).mono fun e w' ⟨he, hb⟩ => ⟨r, St, he, hd St w', hb, ⟨fun _ _ h => h, fun b o u hc hu => (World.cell?_of_block (a := ⟨b, o, none⟩) (hb.block b (hst b o hc))).trans hu, fun b hc => hb.block b (hst b 0 (hc 0))⟩, fun b o h => .inl h, fun b o h => Nat.lt_of_lt_of_le (hst b o h) hb.size⟩
end Go.Sx
/- The engine: comparisons whose answer is known: no way is split. -/
namespace Go.Sx
section
variable {P : Program} {η : List Ob} {σ : Sl} {dst : Option Nat} {ty : TypeId} {pos : String} {after : Array Edge} {gd : Option (Nat × Bool)} {t yt : TypeId} {x y : Operand} {k : IntKind} {m n : Int}
theorem Y_as {o : Oper} {b c : Bool} (h : Ylds P η σ o (.d (.val (.bool b)))) (e : b = c) : Ylds P η σ o (.d (.val (.bool c))) := by subst e; exact h
theorem Y_lssT (hx : oval σ x = .d (.val (.int k m))) (hy : oval σ y = .d (.val (.int k n))) (h : m < n) : Ylds P η σ ⟨dst, .binOp .lss t x y yt, ty, pos, after, gd⟩ (.d (.val (.bool true))) := Y_as (Y_lss hx hy) (decide_eq_true h)
theorem Y_lssF (hx : oval σ x = .d (.val (.int k m))) (hy : oval σ y = .d (.val (.int k n))) (h : ¬ m < n) : Ylds P η σ ⟨dst, .binOp .lss t x y yt, ty, pos, after, gd⟩ (.d (.val (.bool false))) := Y_as (Y_lss hx hy) (decide_eq_false h)
theorem Y_leqT (hx : oval σ x = .d (.val (.int k m))) (hy : oval σ y = .d (.val (.int k n))) (h : m ≤ n) : Ylds P η σ ⟨dst, .binOp .leq t x y yt, ty, pos, after, gd⟩ (.d (.val (.bool true))) := Y_as (Y_leq hx hy) (decide_eq_true h)
theorem Y_leqF (hx : oval σ x = .d (.val (.int k m))) (hy : oval σ y = .d (.val (.int k n))) (h : ¬ m ≤ n) : Ylds P η σ ⟨dst, .binOp .leq t x y yt, ty, pos, after, gd⟩ (.d (.val (.bool false))) := Y_as (Y_leq hx hy) (decide_eq_false h)
theorem Y_gtrT (hx : oval σ x = .d (.val (.int k m))) (hy : oval σ y = .d (.val (.int k n))) (h : m > n) : Ylds P η σ ⟨dst, .binOp .gtr t x y yt, ty, pos, after, gd⟩ (.d (.val (.bool true))) := Y_as (Y_gtr hx hy) (decide_eq_true h)
theorem Y_gtrF (hx : oval σ x = .d (.val (.int k m))) (hy : oval σ y = .d (.val (.int k n))) (h : ¬ m > n) : Ylds P η σ ⟨dst, .binOp .gtr t x y yt, ty, pos, after, gd⟩ (.d (.val (.bool false))) := Y_as (Y_gtr hx hy) (decide_eq_false h)
theorem Y_geqT (hx : oval σ x = .d (.val (.int k m))) (hy : oval σ y = .d (.val (.int k n))) (h : m ≥ n) : Ylds P η σ ⟨dst, .binOp .geq t x y yt, ty, pos, after, gd⟩ (.d (.val (.bool true))) := Y_as (Y_geq hx hy) (decide_eq_true h)
theorem Y_geqF (hx : oval σ x = .d (.val (.int k m))) (hy : oval σ y = .d (.val (.int k n))) (h : ¬ m ≥ n) : Ylds P η σ ⟨dst, .binOp .geq t x y yt, ty, pos, after, gd⟩ (.d (.val (.bool false))) := Y_as (Y_geq hx hy) (decide_eq_false h)
theorem Y_eqlT (hx : oval σ x = .d (.val (.int k m))) (hy : oval σ y = .d (.val (.int k n))) (h : m = n) : Ylds P η σ ⟨dst, .binOp .eql t x y yt, ty, pos, after, gd⟩ (.d (.val (.bool true))) := Y_as (Y_eql hx hy) (decide_eq_true h)
theorem Y_eqlF (hx : oval σ x = .d (.val (.int k m))) (hy : oval σ y = .d (.val (.int k n))) (h : ¬ m = n) : Ylds P η σ ⟨dst, .binOp .eql t x y yt, ty, pos, after, gd⟩ (.d (.val (.bool false))) := Y_as (Y_eql hx hy) (decide_eq_false h)
theorem Y_neqT (hx : oval σ x = .d (.val (.int k m))) (hy : oval σ y = .d (.val (.int k n))) (h : m ≠ n) : Ylds P η σ ⟨dst, .binOp .neq t x y yt, ty, pos, after, gd⟩ (.d (.val (.bool true))) := Y_as (Y_neq hx hy) (decide_eq_true h)
theorem Y_neqF (hx : oval σ x = .d (.val (.int k m))) (hy : oval σ y = .d (.val (.int k n))) (h : ¬ m ≠ n) : Ylds P η σ ⟨dst, .binOp .neq t x y yt, ty, pos, after, gd⟩ (.d (.val (.bool false))) := Y_as (Y_neq hx hy) (decide_eq_false h)
theorem Y_eqbT {a b : Bool} (hx : oval σ x = .d (.val (.bool a))) (hy : oval σ y = .d (.val (.bool b))) (hu : P.underlying t = some .bool) (h : a = b) : Ylds P η σ ⟨dst, .binOp .eql t x y yt, ty, pos, after, gd⟩ (.d (.val (.bool true))) := Y_as (Y_eqlb hx hy hu) (by rw [h]; exact beq_self_eq_true _)
theorem Y_strT {a b : List UInt8} (hx : oval σ x = .d (str a)) (hy : oval σ y = .d (str b)) (h : a = b) : Ylds P η σ ⟨dst, .binOp .eql t x y yt, ty, pos, after, gd⟩ (.d (.val (.bool true))) := Y_as (Y_eqs hx hy) (decide_eq_true h)
end

/-! ### a guard that hangs on what was skipped -/
section
variable {C : Ctx} {ops : Array Oper} {rest : List Oper} {K : Sl → List Ob → Prop} {σ : Sl} {η : List Ob} {d : Nat} {op : Op} {ty : TypeId} {pos : String} {after : Array Edge} {j t : Nat} {want : Bool}
theorem alex_unwanted {gd : Option (Nat × Bool)} (hw : ∀ g a w, AbsG C g σ η a w → Region.wanted (⟨some d, op, ty, pos, after, gd⟩ : Oper) (yielded ops a.tmps) = false) (hd : Nat.blt d C.N = true) (h : alex C false ops rest K ((d, .d (.val undef)) :: σ) η) :
    alex C false ops (⟨some d, op, ty, pos, after, gd⟩ :: rest) K σ η := by
  intro Q hQ a w ⟨g, ha⟩
  refine wpList_step fun K' hK' => ?_
  rw [if_neg (by rw [hw g a w ha]; simp)]
  exact hK' _ _ (h Q hQ _ w ⟨g, ha.put (d := some d) hd (.val undef)⟩)
theorem kU (h1 : (ops[j]?).bind (·.dst) = some t) (h2 : get σ t = .d (.val undef)) (hd : Nat.blt d C.N = true) (h : alex C false ops rest K ((d, .d (.val undef)) :: σ) η) :
    alex C false ops (⟨some d, op, ty, pos, after, some (j, want)⟩ :: rest) K σ η := by
  refine alex_unwanted (fun g a w ha => ?_) hd h
  have hv := ha.rep t
  rw [h2] at hv
  have hv := RepD.val_eq hv
  unfold Region.wanted
  have : yielded ops a.tmps j = none := by
    simp only [yielded, h1, Option.bind_some]
    rcases Nat.lt_or_ge t a.tmps.size with hl | hl
    · rw [Array.getD_eq_getD_getElem?, Array.getElem?_eq_getElem hl] at hv
      rw [Array.getElem?_eq_getElem hl]
      simp only [Option.getD_some] at hv
      rw [hv]; rfl
    · rw [Array.getElem?_eq_none hl]
  simp only [this]; rfl
theorem k1u (h1 : (ops[j]?).bind (·.dst) = some t) (h2 : get σ t = .d (.val (.bool false))) (hd : Nat.blt d C.N = true) (h : alex C false ops rest K ((d, .d (.val undef)) :: σ) η) :
    alex C false ops (⟨some d, op, ty, pos, after, some (j, true)⟩ :: rest) K σ η :=
  alex_unwanted (fun g a w ha => (show Wants ops σ (some (j, true)) false from ⟨t, h1, by simpa using h2⟩).wanted (o := ⟨some d, op, ty, pos, after, some (j, true)⟩) (fun t _ _ _ _ => ha.rep t)) hd h
theorem k0u (h1 : (ops[j]?).bind (·.dst) = some t) (h2 : get σ t = .d (.val (.bool true))) (hd : Nat.blt d C.N = true) (h : alex C false ops rest K ((d, .d (.val undef)) :: σ) η) :
    alex C false ops (⟨some d, op, ty, pos, after, some (j, false)⟩ :: rest) K σ η :=
  alex_unwanted (fun g a w ha => (show Wants ops σ (some (j, false)) false from ⟨t, h1, by simpa using h2⟩).wanted (o := ⟨some d, op, ty, pos, after, some (j, false)⟩) (fun t _ _ _ _ => ha.rep t)) hd h
end
section
variable {C : Ctx} {ops : Array Oper} {rest : List Oper} {K : Sl → List Ob → Prop} {σ : Sl} {η : List Ob} {d : Nat} {ty : TypeId} {pos : String} {after : Array Edge} {gd : Option (Nat × Bool)} {t : TypeId} {x y z u : Operand} {sz e : Nat} {ds : List D}
theorem aLit4 (he : elemTy C.P t = some e) (hs : elemSize C.P t = some sz) (hz : (zeroOf C.P e).isSome = true) (hp : Nat.blt 0 sz = true) (hb : Nat.ble (4 * sz) 16777216 = true) (hd : Nat.blt d C.N = true) (hro : Nat.ble C.ro η.length = true) (hc : CoL η σ [x, y, z, u] ds) (hf : sized ds sz = true)
    (h : alex C false ops rest K ((d, .buf η.length ds.length) :: σ) (η ++ [.buf false e sz ds])) : astep C false ops ⟨some d, .buildSlice t 4 #[(0, x), (1, y), (2, z), (3, u)], ty, pos, after, gd⟩ rest K σ η :=
  aLit (xs := [x, y, z, u]) he hs hz hp hb rfl hc (sized_spec hf).1 (sized_spec hf).2 hd hro (by rfl) h
end
end Go.Sx
/- The engine: contracts of functions that write to objects of their caller. -/
namespace Go.Sx
open Go.RowKit

/-! ### other names for objects -/
def SV.ren (ids : List Nat) : SV → SV
  | .ptr i o => .ptr (ids.getD i 0) o
  | .bptr i k o => .bptr (ids.getD i 0) k o
  | .buf i n => .buf (ids.getD i 0) n
  | .clo f l => .clo f (l.map fun i => ids.getD i 0)
  | .mp i => .mp (ids.getD i 0)
  | .pair a b => .pair (a.ren ids) (b.ren ids)
  | s => s
def Ob.ren (ids : List Nat) : Ob → Ob
  | .bx k et cs => .bx k et (cs.map (SV.ren ids))
  | .miter m since seen st => .miter (ids.getD m 0) since seen st
  | o => o
/-- where a box lies is forgotten -/
def Ob.forget : Ob → Ob
  | .bx _ et cs => .bx none et cs
  | .map _ l => .map none l
  | o => o
/-- the new object; where the old box lay it lies -/
def Ob.back : Ob → Ob → Ob
  | .bx k _ _, .bx _ et cs => .bx k et cs
  | .map k _, .map _ l => .map k l
  | _, n => n
def boxKind : Ob → Nat
  | .bx _ _ _ => 1
  | .map _ _ => 2
  | _ => 0
def isBox : Ob → Bool
  | .bx _ _ _ => true
  | .map _ _ => true
  | _ => false
/-- what a slot says after objects have turned: rows and iterators of 'bufs' may lie elsewhere -/
def SV.wipe (bufs all : List Nat) : SV → SV
  | .ptr i o => match bufs.any (Nat.beq i) with
    | true => .top
    | false => .ptr i o
  | .bptr i k o => match all.any (Nat.beq i) with
    | true => .top
    | false => .bptr i k o
  | .buf i n => match all.any (Nat.beq i) with
    | true => .top
    | false => .buf i n
  | .clo f l => match l.any fun i => bufs.any (Nat.beq i) with
    | true => .top
    | false => .clo f l
  | .mp i => match bufs.any (Nat.beq i) with
    | true => .top
    | false => .mp i
  | .pair a b => .pair (a.wipe bufs all) (b.wipe bufs all)
  | s => s
def wipeσ (bufs all : List Nat) : Sl → Sl
  | [] => []
  | (k, s) :: r => (k, s.wipe bufs all) :: wipeσ bufs all r
def Ob.wipe (bufs all : List Nat) : Ob → Ob
  | .bx k et cs => .bx k et (cs.map (SV.wipe bufs all))
  | .miter m since seen st => match bufs.any (Nat.beq m) with
    | true => .gone
    | false => .miter m since seen st
  | o => o
def wipeη (bufs all : List Nat) : List Ob → List Ob
  | [] => []
  | o :: r => o.wipe bufs all :: wipeη bufs all r
def setAll : List Ob → List Nat → List Ob → List Ob
  | η, i :: is, p :: ps => setAll (η.set i (Ob.back (η.getD i .gone) p)) is ps
  | η, _, _ => η
def bufsOf : List Nat → List Ob → List Nat
  | i :: is, o :: r => match isBox o with
    | true => bufsOf is r
    | false => i :: bufsOf is r
  | _, _ => []

theorem any_beq {l : List Nat} {i : Nat} : l.any (Nat.beq i) = true ↔ i ∈ l := by
  rw [List.any_eq_true]
  exact ⟨fun ⟨x, h1, h2⟩ => by rw [Nat.eq_of_beq_eq_true h2]; exact h1, fun h => ⟨i, h, Nat.beq_refl i⟩⟩
theorem any_beq_f {l : List Nat} {i : Nat} (h : l.any (Nat.beq i) = false) : i ∉ l := fun hm => by
  rw [any_beq.2 hm] at h; cases h

theorem get_wipe (bufs all : List Nat) : ∀ (σ : Sl) (t : Nat), get (wipeσ bufs all σ) t = (get σ t).wipe bufs all
  | [], t => rfl
  | (k, s) :: r, t => by
    unfold wipeσ
    rw [get_cons, get_cons]
    split
    · rfl
    · exact get_wipe bufs all r t
theorem wipeη_len (bufs all : List Nat) : ∀ (η : List Ob), (wipeη bufs all η).length = η.length
  | [] => rfl
  | _ :: r => by simp [wipeη, wipeη_len bufs all r]
theorem wipeη_get (bufs all : List Nat) : ∀ (η : List Ob) (i : Nat), (wipeη bufs all η)[i]? = (η[i]?).map (Ob.wipe bufs all)
  | [], i => by simp [wipeη]
  | o :: r, 0 => by simp [wipeη]
  | o :: r, i + 1 => by simp [wipeη, wipeη_get bufs all r i]

theorem RepS.wipe {g g' : Gh} {w w' : World} {v : Value} {s : SV} {bufs all : List Nat} (k : Keep g.St w g'.St w') (h1 : ∀ i, i < g.n → i ∉ all → g'.blk i = g.blk i ∧ g'.cap i = g.cap i ∧ g'.sz i = g.sz i) (h2 : ∀ i, i < g.n → i ∉ bufs → g'.blk i = g.blk i) (hn : g.n ≤ g'.n)
    (r : RepS g w v s) : RepS g' w' v (s.wipe bufs all) := by
  induction s generalizing v with
  | d d => exact RepD.keep k r
  | nil => exact r
  | ptr i off =>
    cases he : bufs.any (Nat.beq i) with
    | true => simp only [SV.wipe, he]; trivial
    | false =>
      simp only [SV.wipe, he]
      obtain ⟨q1, b, q2, q3⟩ := r
      exact ⟨by omega, b, by rw [h2 i q1 (any_beq_f he)]; exact q2, q3⟩
  | rptr cs =>
    obtain ⟨ad, us, q1, q2, q3, q4, q5⟩ := r
    exact ⟨ad, us, q1, q2, q3, fun j u hu => (q4 j u hu).keep k, fun j u d hu hd => (q5 j u d hu hd).keep k⟩
  | bptr i j off =>
    cases he : all.any (Nat.beq i) with
    | true => simp only [SV.wipe, he]; trivial
    | false =>
      simp only [SV.wipe, he]
      obtain ⟨q1, b, q2, q3⟩ := r
      exact ⟨by omega, b, by rw [(h1 i q1 (any_beq_f he)).1]; exact q2, by rw [(h1 i q1 (any_beq_f he)).2.2]; exact q3⟩
  | buf i n =>
    cases he : all.any (Nat.beq i) with
    | true => simp only [SV.wipe, he]; trivial
    | false =>
      simp only [SV.wipe, he]
      obtain ⟨q1, q2⟩ := r
      exact ⟨by omega, by rw [(h1 i q1 (any_beq_f he)).1, (h1 i q1 (any_beq_f he)).2.1]; exact q2⟩
  | clo f l =>
    cases he : (l.any fun i => bufs.any (Nat.beq i)) with
    | true => simp only [SV.wipe, he]; trivial
    | false =>
      simp only [SV.wipe, he]
      obtain ⟨vs, q1, q2, q3⟩ := r
      refine ⟨vs, q1, q2, fun j id u hj hu => ?_⟩
      obtain ⟨q4, b, q5, q6⟩ := q3 j id u hj hu
      have hnb : id ∉ bufs := by
        have := List.any_eq_false.1 he id (List.mem_of_getElem? hj)
        exact fun hm => this (any_beq.2 hm)
      exact ⟨by omega, b, by rw [h2 id q4 hnb]; exact q5, q6⟩
  | mp i =>
    cases he : bufs.any (Nat.beq i) with
    | true => simp only [SV.wipe, he]; trivial
    | false =>
      simp only [SV.wipe, he]
      obtain ⟨q1, b, q2, q3⟩ := r
      exact ⟨by omega, b, by rw [h2 i q1 (any_beq_f he)]; exact q2, q3⟩
  | pair a b ha hb => obtain ⟨u1, u2, q1, q2, q3⟩ := r; exact ⟨u1, u2, q1, ha q2, hb q3⟩
  | p φ => exact r
  | top => trivial

/-- an object under another name: from the callee's names to the caller's -/
theorem RepS.ren {g g2 : Gh} {w : World} {v : Value} {s : SV} {ids : List Nat} (hst : g2.St = g.St) (hm : ∀ j, j < g.n → ids.getD j 0 < g2.n ∧ g2.blk (ids.getD j 0) = g.blk j ∧ g2.cap (ids.getD j 0) = g.cap j ∧ g2.sz (ids.getD j 0) = g.sz j)
    (r : RepS g w v s) : RepS g2 w v (s.ren ids) := by
  induction s generalizing v with
  | d d => show RepD g2.St w v d; rw [hst]; exact r
  | nil => exact r
  | ptr i off => obtain ⟨q1, b, q2, q3⟩ := r; obtain ⟨e1, e2, _, _⟩ := hm i q1; exact ⟨e1, b, by rw [e2]; exact q2, q3⟩
  | rptr cs =>
    obtain ⟨ad, us, q1, q2, q3, q4, q5⟩ := r
    exact ⟨ad, us, q1, q2, q3, fun j u hu => by rw [hst]; exact q4 j u hu, fun j u d hu hd => by rw [hst]; exact q5 j u d hu hd⟩
  | bptr i j off => obtain ⟨q1, b, q2, q3⟩ := r; obtain ⟨e1, e2, _, e4⟩ := hm i q1; exact ⟨e1, b, by rw [e2]; exact q2, by rw [e4]; exact q3⟩
  | buf i n => obtain ⟨q1, q2⟩ := r; obtain ⟨e1, e2, e3, _⟩ := hm i q1; exact ⟨e1, by rw [e2, e3]; exact q2⟩
  | clo f l =>
    obtain ⟨vs, q1, q2, q3⟩ := r
    refine ⟨vs, q1, by simpa using q2, fun j id u hj hu => ?_⟩
    rw [List.getElem?_map] at hj
    cases hl : l[j]? with
    | none => simp [hl] at hj
    | some i0 =>
      simp [hl] at hj; subst hj
      obtain ⟨q4, b, q5, q6⟩ := q3 j i0 u hl hu
      obtain ⟨e1, e2, _, _⟩ := hm i0 q4
      simp only [List.getD_eq_getElem?_getD] at e1 e2
      exact ⟨e1, b, by rw [e2]; exact q5, q6⟩
  | mp i => obtain ⟨q1, b, q2, q3⟩ := r; obtain ⟨e1, e2, _, _⟩ := hm i q1; exact ⟨e1, b, by rw [e2]; exact q2, q3⟩
  | pair a b ha hb => obtain ⟨u1, u2, q1, q2, q3⟩ := r; exact ⟨u1, u2, q1, ha q2, hb q3⟩
  | p φ => exact r
  | top => trivial
/-- and back -/
theorem RepS.unren {g g2 : Gh} {w : World} {v : Value} {s : SV} {ids : List Nat} (hst : g.St = g2.St) (hs : s.bel g.n = true) (hm : ∀ j, j < g.n → g2.blk (ids.getD j 0) = g.blk j ∧ g2.cap (ids.getD j 0) = g.cap j ∧ g2.sz (ids.getD j 0) = g.sz j)
    (r : RepS g2 w v (s.ren ids)) : RepS g w v s := by
  have bl : ∀ {i : Nat}, Nat.blt i g.n = true → i < g.n := fun h => by simpa using h
  induction s generalizing v with
  | d d => show RepD g.St w v d; rw [hst]; exact r
  | nil => exact r
  | ptr i off => obtain ⟨q1, b, q2, q3⟩ := r; obtain ⟨e2, _, _⟩ := hm i (bl hs); exact ⟨bl hs, b, by rw [← e2]; exact q2, q3⟩
  | rptr cs =>
    obtain ⟨ad, us, q1, q2, q3, q4, q5⟩ := r
    exact ⟨ad, us, q1, q2, q3, fun j u hu => by rw [hst]; exact q4 j u hu, fun j u d hu hd => by rw [hst]; exact q5 j u d hu hd⟩
  | bptr i j off => obtain ⟨q1, b, q2, q3⟩ := r; obtain ⟨e2, _, e4⟩ := hm i (bl hs); exact ⟨bl hs, b, by rw [← e2]; exact q2, by rw [← e4]; exact q3⟩
  | buf i n => obtain ⟨q1, q2⟩ := r; obtain ⟨e2, e3, _⟩ := hm i (bl hs); exact ⟨bl hs, by rw [← e2, ← e3]; exact q2⟩
  | clo f l =>
    obtain ⟨vs, q1, q2, q3⟩ := r
    refine ⟨vs, q1, by simpa using q2, fun j id u hj hu => ?_⟩
    have hlt := bl (List.all_eq_true.1 hs id (List.mem_of_getElem? hj))
    obtain ⟨q4, b, q5, q6⟩ := q3 j (ids.getD id 0) u (by rw [List.getElem?_map, hj]; rfl) hu
    obtain ⟨e2, _, _⟩ := hm id hlt
    exact ⟨hlt, b, by rw [← e2]; exact q5, q6⟩
  | mp i => obtain ⟨q1, b, q2, q3⟩ := r; obtain ⟨e2, _, _⟩ := hm i (bl hs); exact ⟨bl hs, b, by rw [← e2]; exact q2, q3⟩
  | pair a b ha hb =>
    simp only [SV.bel, Bool.and_eq_true] at hs
    obtain ⟨u1, u2, q1, q2, q3⟩ := r; exact ⟨u1, u2, q1, ha hs.1 q2, hb hs.2 q3⟩
  | p φ => exact r
  | top => trivial

/-! ### the contract -/
structure Frame (g : Gh) (w : World) (pre : List Ob) (g' : Gh) (w' : World) : Prop where
  os : w'.os = w.os
  tape : w'.tape = w.tape
  output : w'.output = w.output
  size : w.heap.size ≤ w'.heap.size
  heap : ∀ k, k < w.heap.size → (∀ j, g.blk j ≠ some k) → w'.heap[k]? = w.heap[k]?
  keep : Keep g.St w g'.St w'
  new : ∀ b o, g'.St b o → g.St b o ∨ w.heap.size ≤ b ∨ ∃ j, g.blk j = some b
  own : ∀ j b, g'.blk j = some b → w.heap.size ≤ b ∨ ∃ i, g.blk i = some b
  box : ∀ j o, pre[j]? = some o → isBox o = true → g'.blk j = g.blk j

def RepSs (g : Gh) (w : World) : List Value → List SV → Prop
  | [], [] => True
  | v :: vs, s :: ss => RepS g w v s ∧ RepSs g w vs ss
  | _, _ => False

/-- What a call of f comes to, that turns objects pre into post. -/
def MCall (P : Program) (f : FuncId) (as : List SV) (pre : List Ob) (res : SV) (post : List Ob) : Prop :=
  ∀ (g : Gh) (w : World) (vs : List Value), Inv g w pre → RepSs g w vs as →
    Calls P f vs.toArray w (fun e w' => ∃ v g', e = .returned v ∧ Inv g' w' post ∧ RepS g' w' v res ∧ Frame g w pre g' w')

/-! ### how such a function is entered -/
def anch1 (k : Option Nat) : Ob → Ob
  | .bx _ et cs => .bx k et cs
  | .map _ l => .map k l
  | o => o
/-- the objects that the caller had lie where they lay -/
def anch (f : Nat → Option Nat) : Nat → List Ob → List Ob → List Ob
  | i, _ :: pre, o :: post => anch1 (f i) o :: anch f (i + 1) pre post
  | _, _, post => post
theorem anch_get (f : Nat → Option Nat) : ∀ (pre l : List Ob) (i j : Nat), (anch f i pre l)[j]? = (l[j]?).map fun o => if j < pre.length then anch1 (f (i + j)) o else o
  | [], l, i, j => by cases l <;> simp [anch]
  | _ :: _, [], i, j => by simp [anch]
  | _ :: pre, o :: r, i, 0 => by simp [anch]
  | _ :: pre, o :: r, i, j + 1 => by
    have := anch_get f pre r (i + 1) j
    rw [show i + (j + 1) = i + 1 + j by omega]
    simp only [anch, List.getElem?_cons_succ, List.length_cons, Nat.add_lt_add_iff_right]; exact this
theorem anch_len (f : Nat → Option Nat) : ∀ (pre l : List Ob) (i : Nat), (anch f i pre l).length = l.length
  | [], l, _ => by cases l <;> rfl
  | _ :: _, [], _ => rfl
  | _ :: pre, o :: r, i => by simp [anch, anch_len f pre r (i + 1)]

def unlaid1 : Ob → Bool
  | .bx (some _) _ _ => false
  | .map (some _) _ => false
  | _ => true
theorem ObOk.anch1 {g : Gh} {w : World} {id : Nat} {o : Ob} (h : ObOk g w id o) : ObOk g w id (anch1 (g.blk id) o) := by
  cases o with
  | bx k et cs =>
    obtain ⟨b, e, us, h1, h2, h3, h4, h5, h6, h7⟩ := h
    exact ⟨b, e, us, h1, h2, h3, h4, h5, h6, ⟨fun c hc => by rw [h1] at hc; injection hc with hc; exact hc.symm, h7.2⟩⟩
  | map k l =>
    obtain ⟨b, es, h1, h2, h3, h4, h5, h6⟩ := h
    exact ⟨b, es, h1, h2, h3, h4, h5, fun c hc => by rw [h1] at hc; injection hc with hc; exact hc.symm⟩
  | _ => exact h
theorem ObOk.unanch1 {g : Gh} {w : World} {id : Nat} {k : Option Nat} {o : Ob} (hn : unlaid1 o = true) (h : ObOk g w id (Sx.anch1 k o)) : ObOk g w id o ∧ (isBox o = true → ∃ b, g.blk id = some b ∧ ∀ c, k = some c → c = b) := by
  cases o with
  | bx k0 et cs =>
    obtain ⟨b, e, us, h1, h2, h3, h4, h5, h6, h7⟩ := h
    refine ⟨?_, fun _ => ⟨b, h1, h7.1⟩⟩
    cases k0 with
    | none => exact ⟨b, e, us, h1, h2, h3, h4, h5, h6, fun _ hc => (by cases hc), h7.2⟩
    | some c => cases hn
  | map k0 l =>
    obtain ⟨b, es, h1, h2, h3, h4, h5, h6⟩ := h
    refine ⟨?_, fun _ => ⟨b, h1, h6⟩⟩
    cases k0 with
    | none => exact ⟨b, es, h1, h2, h3, h4, h5, fun _ hc => (by cases hc)⟩
    | some c => cases hn
  | buf mu e sz xs => exact ⟨h, fun hb => by cases hb⟩
  | iter s p => exact ⟨h, fun hb => by cases hb⟩
  | miter m since seen st => exact ⟨h, fun hb => by cases hb⟩
  | gone => exact ⟨trivial, fun hb => by cases hb⟩

theorem Inv.anch {g : Gh} {w : World} {pre : List Ob} (h : Inv g w pre) : Inv g w (anch g.blk 0 pre pre) := by
  refine ⟨by rw [anch_len]; exact h.n, h.lt, h.dead, h.inj, fun id o ho => ?_, h.st, h.gl⟩
  rw [anch_get] at ho
  cases hp : pre[id]? with
  | none => simp [hp] at ho
  | some p =>
    rw [hp, Option.map_some, if_pos (List.getElem?_eq_some_iff.1 hp).1, Nat.zero_add] at ho
    injection ho with ho; subst ho
    exact (h.ob id p hp).anch1
theorem Inv.unanch {g : Gh} {w : World} {f : Nat → Option Nat} {pre post : List Ob} (hn : post.all unlaid1 = true) (h : Inv g w (Sx.anch f 0 pre post)) : Inv g w post ∧ ∀ j o, j < pre.length → post[j]? = some o → isBox o = true → ∃ b, g.blk j = some b ∧ ∀ c, f j = some c → c = b := by
  have key : ∀ j o, post[j]? = some o → ObOk g w j o ∧ (j < pre.length → isBox o = true → ∃ b, g.blk j = some b ∧ ∀ c, f j = some c → c = b) := by
    intro j o hj
    have hno := List.all_eq_true.1 hn o (List.mem_of_getElem? hj)
    by_cases hl : j < pre.length
    · have := h.ob j (anch1 (f j) o) (by rw [anch_get, hj, Option.map_some, if_pos hl, Nat.zero_add])
      exact ⟨(this.unanch1 hno).1, fun _ => (this.unanch1 hno).2⟩
    · exact ⟨h.ob j o (by rw [anch_get, hj, Option.map_some, if_neg hl]), fun hl' => absurd hl' hl⟩
  exact ⟨⟨by have := h.n; rwa [anch_len] at this, h.lt, h.dead, h.inj, fun id o ho => (key id o ho).1, h.st, h.gl⟩, fun j o hl hj hb => (key j o hj).2 hl hb⟩

def sargs : List SV → Nat → Sl
  | [], _ => []
  | s :: r, k => (k, s) :: sargs r (k + 1)
theorem RepSs.len {g : Gh} {w : World} : ∀ {vs : List Value} {ss : List SV}, RepSs g w vs ss → vs.length = ss.length
  | [], [], _ => rfl
  | _ :: _, _ :: _, h => by simp [RepSs.len h.2]
  | [], _ :: _, h => h.elim
  | _ :: _, [], h => h.elim
theorem sargs_rep {g : Gh} {w : World} : ∀ (vs : List Value) (ss : List SV) (k : Nat) (f : Nat → Value), RepSs g w vs ss → (∀ j v, vs[j]? = some v → f (k + j) = v) → ∀ t, RepS g w (f t) (get (sargs ss k) t)
  | [], [], _, _, _, _, _ => trivial
  | v :: vs, s :: ss, k, f, h, hf, t => by
    unfold sargs
    rw [get_cons]
    split
    · rename_i e; subst e
      have := hf 0 v rfl
      rw [Nat.add_zero] at this
      rw [this]; exact h.1
    · exact sargs_rep vs ss (k + 1) f h.2 (fun j v' hj => by rw [← hf (j + 1) v' hj]; congr 1; omega) t
  | [], _ :: _, _, _, h, _, _ => h.elim
  | _ :: _, [], _, _, h, _, _ => h.elim

def MRes (rs : Array ResultVar) (res : SV) (post : List Ob) (σ : Sl) (η : List Ob) : Prop :=
  match rs.toList with
  | [.tmp r] => Fits [(r, res)] post σ η
  | [.tmp r, .tmp s] => match res with
    | .pair a b => Fits [(r, a), (s, b)] post σ η ∧ Nat.beq r s = false
    | _ => res = .top ∧ Fits [] post σ η
  | [] => res = .top ∧ Fits [] post σ η
  | _ => False
def mpost (rs : Array ResultVar) (res : SV) (post : List Ob) : Exit → Sl → List Ob → Prop
  | .ret, σ, η => MRes rs res post σ η
  | .normal, σ, η => MRes rs res post σ η
  | _, _, _ => False
theorem mpost_ret {rs : Array ResultVar} {res : SV} {post : List Ob} {σ : Sl} {η : List Ob} (h : MRes rs res post σ η) : mpost rs res post .ret σ η := h
theorem mpost_nrm {rs : Array ResultVar} {res : SV} {post : List Ob} {σ : Sl} {η : List Ob} (h : MRes rs res post σ η) : mpost rs res post .normal σ η := h

theorem MRes.abs {rs : Array ResultVar} {res : SV} {post : List Ob} {σ : Sl} {η : List Ob} {P : Program} {fn : Func} {w : World} {a : Act} {C : Ctx} (hrs : fn.results = rs) (h : MRes rs res post σ η) (ha : Abs C σ η a w) :
    ∃ v g σ', (results fn a.tmps).run P w = .ok v w ∧ AbsG C g σ' post a w ∧ RepS g w v res := by
  obtain ⟨rl⟩ := rs
  unfold MRes at h
  split at h
  · rename_i r hr
    simp at hr; subst hr
    obtain ⟨g, hg⟩ := h.abs ha
    refine ⟨_, g, _, results_tmp hrs _ _ _, hg, ?_⟩
    have := hg.rep r
    rw [get_cons, if_pos rfl] at this
    exact this
  · rename_i r s hr
    simp at hr; subst hr
    split at h
    · rename_i sa sb
      obtain ⟨h, hne⟩ := h
      obtain ⟨g, hg⟩ := h.abs ha
      have hne : r ≠ s := fun e => by subst e; simp at hne
      have h1 := hg.rep r
      have h2 := hg.rep s
      rw [get_cons, if_pos rfl] at h1
      rw [get_cons, if_neg hne, get_cons, if_pos rfl] at h2
      exact ⟨_, g, _, results_tmp2 hrs _ _ _, hg, _, _, rfl, h1, h2⟩
    · obtain ⟨rfl, h⟩ := h
      obtain ⟨g, hg⟩ := h.abs ha
      exact ⟨_, g, _, results_tmp2 hrs _ _ _, hg, trivial⟩
  · rename_i hr
    simp at hr; subst hr
    obtain ⟨rfl, h⟩ := h
    obtain ⟨g, hg⟩ := h.abs ha
    exact ⟨_, g, _, results_none hrs _ _ _, hg, trivial⟩
  · exact h.elim

def unlaid (l : List Ob) : Bool := l.all unlaid1
/-- the second list goes on where the first one ends; what are boxes, or maps, are so in both -/
def sameBoxes : List Ob → List Ob → Bool
  | [], _ => true
  | o :: r, p :: s => Nat.beq (boxKind o) (boxKind p) && sameBoxes r s
  | _ :: _, [] => false
theorem sameBoxes_len : ∀ {l m : List Ob}, sameBoxes l m = true → l.length ≤ m.length
  | [], _, _ => Nat.zero_le _
  | o :: r, p :: s, h => by simp only [sameBoxes, Bool.and_eq_true] at h; have := sameBoxes_len h.2; simpa using this
  | _ :: _, [], h => by cases h
theorem sameBoxes_get : ∀ {l m : List Ob}, sameBoxes l m = true → ∀ (j : Nat) (o p : Ob), l[j]? = some o → m[j]? = some p → boxKind o = boxKind p
  | o :: r, p :: s, h, 0, o', p', ho, hp => by
    simp only [sameBoxes, Bool.and_eq_true] at h
    simp at ho hp; subst ho; subst hp; exact Nat.eq_of_beq_eq_true h.1
  | o :: r, p :: s, h, j + 1, o', p', ho, hp => by
    simp only [sameBoxes, Bool.and_eq_true] at h
    exact sameBoxes_get h.2 j o' p' (by simpa using ho) (by simpa using hp)
  | [], _, _, j, _, _, ho, _ => by simp at ho
  | _ :: _, [], h, _, _, _, _, _ => by cases h
theorem isBox_kind {o : Ob} : isBox o = true ↔ boxKind o ≠ 0 := by cases o <;> simp [isBox, boxKind]
theorem isBox_blk {g : Gh} {w : World} {id : Nat} {o : Ob} (h : ObOk g w id o) (hb : isBox o = true) : ∃ b, g.blk id = some b := by
  cases o with
  | bx k et cs => obtain ⟨b, e, us, h1, _⟩ := h; exact ⟨b, h1⟩
  | map k l => obtain ⟨b, es, h1, _⟩ := h; exact ⟨b, h1⟩
  | _ => cases hb

/-- SUCH A FUNCTION IS ENTERED. -/
theorem mcall_of {P : Program} {f : FuncId} {fn : Func} {c : Code} {as : List SV} {pre post : List Ob} {res : SV} {N : Nat} {rs : Array ResultVar} (hf : P.funcs[f]? = some fn) (hb : fn.body = some c) (hN : fn.ntmps = N) (hrs : fn.results = rs) (hl : Nat.ble as.length N = true)
    (hk : sameBoxes pre post = true) (hu : unlaid post = true)
    (h : ∀ (w0 : World) (St0 : Stab) (X : Nat → Prop) (fx : Nat → Option Nat), awp ⟨P, N, w0, St0, X, 0⟩ c (mpost rs res (anch fx 0 pre post)) (sargs as 0) (anch fx 0 pre pre)) : MCall P f as pre res post := by
  intro g w vs hi hrep
  subst hN
  have hl := Nat.le_of_ble_eq_true hl
  have hlen := hrep.len
  refine calls_of_wp hf hb (h w g.St (fun b => ∃ j, g.blk j = some b) g.blk _ ?_ _ _ ?_)
  · intro e σ' η' a' w' hq ha
    have fin : MRes rs res (anch g.blk 0 pre post) σ' η' → a'.defers = [] ∧ ∃ v, (results fn a'.tmps).run P w' = .ok v w' ∧ ∃ v_1 g', Ending.returned v = .returned v_1 ∧ Inv g' w' post ∧ RepS g' w' v_1 res ∧ Frame g w pre g' w' := by
      intro hq
      obtain ⟨v, g', σ2, hr, hA, hrep'⟩ := hq.abs (P := P) hrs ha
      obtain ⟨hI, hbx⟩ := hA.inv.unanch hu
      refine ⟨hA.defers, v, hr, v, g', rfl, hI, hrep', ⟨hA.os, hA.tape, hA.output, hA.wsize, fun k hk hno => hA.heap k hk (fun ⟨j, hj⟩ => hno j hj), hA.keep, fun b o hbo => ?_, fun j b hj => hA.own j b hj (Nat.zero_le _), fun j o hj hob => ?_⟩⟩
      · exact hA.new b o hbo
      · have hjp : j < pre.length := (List.getElem?_eq_some_iff.1 hj).1
        have hjl : j < post.length := Nat.lt_of_lt_of_le hjp (sameBoxes_len hk)
        have hp : post[j]? = some post[j] := List.getElem?_eq_getElem hjl
        have hs := sameBoxes_get hk j _ _ hj hp
        obtain ⟨b', hb', hc'⟩ := hbx j _ hjp hp (isBox_kind.2 (by rw [← hs]; exact isBox_kind.1 hob))
        obtain ⟨b, o1⟩ := isBox_blk (hi.ob j _ hj) hob
        rw [hb', o1, hc' b o1]
    cases e <;> first | exact fin hq | exact hq.elim
  · refine ⟨g, rfl, ?_, hi.anch, rfl, rfl, rfl, Nat.le_refl _, fun _ _ _ => rfl, Keep.refl g.St w, fun _ _ h => .inl h, fun i b hb _ => .inr ⟨i, hb⟩, ?_⟩
    · simp [hlen]; omega
    · refine sargs_rep vs as 0 _ hrep fun j v hj => ?_
      have hjl : j < vs.length := (List.getElem?_eq_some_iff.1 hj).1
      simp only [Nat.zero_add, Array.getD_eq_getD_getElem?]
      rw [Array.getElem?_append_left (by simpa using hjl)]
      simp [hj]
end Go.Sx
/- The engine: a call of a function that writes to objects of its caller. -/
namespace Go.Sx
open Go.RowKit

/-- at which place a name stands -/
def look : List Nat → Nat → Option Nat
  | [], _ => none
  | x :: r, i => match Nat.beq x i with
    | true => some 0
    | false => (look r i).map (· + 1)
theorem look_some : ∀ {l : List Nat} {i j : Nat}, look l i = some j → l[j]? = some i
  | x :: r, i, j, h => by
    unfold look at h
    split at h
    · rename_i hb; injection h with h; subst h; rw [Nat.eq_of_beq_eq_true hb]; rfl
    · cases hl : look r i with
      | none => simp [hl] at h
      | some j' => simp [hl] at h; subst h; simpa using look_some hl
  | [], _, _, h => by cases h
theorem look_none : ∀ {l : List Nat} {i : Nat}, look l i = none → i ∉ l
  | x :: r, i, h => by
    unfold look at h
    split at h
    · cases h
    · rename_i hb
      cases hl : look r i with
      | none =>
        have h1 := look_none hl
        intro hm
        rcases List.mem_cons.1 hm with rfl | hm
        · simp at hb
        · exact h1 hm
      | some j' => simp [hl] at h
  | [], _, _ => by simp
theorem look_of {l : List Nat} (hn : l.Nodup) {i j : Nat} (h : l[j]? = some i) : look l i = some j := by
  cases hl : look l i with
  | none => exact absurd (List.mem_of_getElem? h) (look_none hl)
  | some k =>
    have h1 := look_some hl
    obtain ⟨q1, e1⟩ := List.getElem?_eq_some_iff.1 h
    obtain ⟨q2, e2⟩ := List.getElem?_eq_some_iff.1 h1
    have hp := List.pairwise_iff_getElem.1 hn
    rcases Nat.lt_trichotomy j k with hlt | hlt | hlt
    · exact absurd (e1.trans e2.symm) (hp j k q1 q2 hlt)
    · rw [hlt]
    · exact absurd (e2.trans e1.symm) (hp k j q2 q1 hlt)

theorem setAll_len : ∀ (η : List Ob) (is : List Nat) (ps : List Ob), (setAll η is ps).length = η.length
  | η, i :: is, p :: ps => by rw [setAll, setAll_len]; simp
  | η, [], ps => by cases ps <;> rfl
  | η, _ :: _, [] => rfl
theorem setAll_out : ∀ (η : List Ob) (is : List Nat) (ps : List Ob) (i : Nat), i ∉ is → (setAll η is ps)[i]? = η[i]?
  | η, x :: is, p :: ps, i, h => by
    have h1 : x ≠ i := fun e => h (by rw [e]; simp)
    rw [setAll, setAll_out _ is ps i (fun hm => h (List.mem_cons_of_mem _ hm)), List.getElem?_set]
    rw [if_neg h1]
  | η, [], ps, _, _ => by cases ps <;> rfl
  | η, _ :: _, [], _, _ => rfl
theorem setAll_in : ∀ (η : List Ob) (is : List Nat) (ps : List Ob) (j i : Nat) (o p : Ob), is.Nodup → is[j]? = some i → ps[j]? = some p → η[i]? = some o → (setAll η is ps)[i]? = some (Ob.back o p)
  | η, x :: is, q :: ps, 0, i, o, p, hn, h1, h2, h3 => by
    simp at h1 h2; subst h1; subst h2
    rw [setAll, setAll_out _ is ps x (List.nodup_cons.1 hn).1, List.getElem?_set, if_pos rfl, if_pos (List.getElem?_eq_some_iff.1 h3).1, List.getD_eq_getElem?_getD, h3]; rfl
  | η, x :: is, q :: ps, j + 1, i, o, p, hn, h1, h2, h3 => by
    obtain ⟨hx, hn⟩ := List.nodup_cons.1 hn
    have h1 : is[j]? = some i := by simpa using h1
    have hne : x ≠ i := fun e => hx (e ▸ List.mem_of_getElem? h1)
    rw [setAll]
    exact setAll_in _ is ps j i o p hn h1 (by simpa using h2) (by rw [List.getElem?_set, if_neg hne]; exact h3)
  | η, [], _, _, _, _, _, _, h1, _, _ => by simp at h1
  | η, _ :: _, [], _, _, _, _, _, _, h2, _ => by simp at h2

theorem bufsOf_in : ∀ {ids : List Nat} {pre : List Ob} {j i : Nat} {o : Ob}, ids[j]? = some i → pre[j]? = some o → isBox o = false → i ∈ bufsOf ids pre
  | x :: ids, p :: pre, 0, i, o, h1, h2, hb => by
    simp at h1 h2; subst h1; subst h2
    unfold bufsOf; rw [hb]; simp
  | x :: ids, p :: pre, j + 1, i, o, h1, h2, hb => by
    have := bufsOf_in (ids := ids) (pre := pre) (j := j) (by simpa using h1) (by simpa using h2) hb
    unfold bufsOf
    split
    · exact this
    · exact List.mem_cons_of_mem _ this
  | [], _, _, _, _, h1, _, _ => by simp at h1
  | _ :: _, [], _, _, _, _, h2, _ => by simp at h2

/-- the objects that the callee sees -/
def Picks (η : List Ob) (ids : List Nat) (pre : List Ob) : Prop := (ids.map fun i => (η[i]?).map Ob.forget) = pre.map fun p => some (p.ren ids)

theorem Picks.get {η : List Ob} {ids : List Nat} {pre : List Ob} (h : Picks η ids pre) {j i : Nat} {p : Ob} (hi : ids[j]? = some i) (hp : pre[j]? = some p) : ∃ o, η[i]? = some o ∧ o.forget = p.ren ids := by
  have h1 : (ids.map fun i => (η[i]?).map Ob.forget)[j]? = (pre.map fun p => some (p.ren ids))[j]? := by rw [h]
  rw [List.getElem?_map, List.getElem?_map, hi, hp] at h1
  simp only [Option.map_some, Option.some.injEq] at h1
  cases ho : η[i]? with
  | none => simp [ho] at h1
  | some o => simp [ho] at h1; exact ⟨o, rfl, h1⟩

theorem forget_buf {o : Ob} {ids : List Nat} {p : Ob} (h : o.forget = p.ren ids) (hp : isBox p = false) : o = p.ren ids := by
  cases p with
  | bx k et cs => cases hp
  | map k l => cases hp
  | buf mu e sz xs => cases o <;> simp [Ob.forget, Ob.ren] at h ⊢ <;> exact h
  | iter s q => cases o <;> simp [Ob.forget, Ob.ren] at h ⊢ <;> exact h
  | miter m since seen st => cases o <;> simp [Ob.forget, Ob.ren] at h ⊢ <;> exact h
  | gone => cases o <;> simp [Ob.forget, Ob.ren] at h ⊢

def calleeG (g : Gh) (ids : List Nat) : Gh := { g with blk := fun j => (ids[j]?).bind g.blk, cap := fun j => g.cap (ids.getD j 0), sz := fun j => g.sz (ids.getD j 0), n := ids.length }
def callerG (g g' : Gh) (ids : List Nat) (n : Nat) : Gh :=
  { St := g'.St, blk := fun i => match look ids i with | some j => g'.blk j | none => g.blk i, cap := fun i => match look ids i with | some j => g'.cap j | none => g.cap i, sz := fun i => match look ids i with | some j => g'.sz j | none => g.sz i, n := n }

theorem getD_some {ids : List Nat} {j i : Nat} (h : ids[j]? = some i) : ids.getD j 0 = i := by rw [List.getD_eq_getElem?_getD, h]; rfl

theorem Inv.callee {g : Gh} {w : World} {η : List Ob} {ids : List Nat} {pre : List Ob} (hi : Inv g w η) (hn : ids.Nodup) (hlen : ids.length = pre.length) (hp : Picks η ids pre) (hu : unlaid pre = true) (hb : pre.all (Ob.below pre.length) = true) : Inv (calleeG g ids) w pre := by
  have hg : ∀ j b, (calleeG g ids).blk j = some b → ∃ i, ids[j]? = some i ∧ g.blk i = some b := by
    intro j b h
    simp only [calleeG] at h
    cases hj : ids[j]? with
    | none => simp [hj] at h
    | some i => simp [hj] at h; exact ⟨i, rfl, h⟩
  refine ⟨by simp [calleeG, hlen], fun j b h => ?_, fun j h => ?_, fun i j b h1 h2 => ?_, fun j p hpj => ?_, hi.st, hi.gl⟩
  · obtain ⟨i, _, h1⟩ := hg j b h; exact hi.lt i b h1
  · simp only [calleeG] at h ⊢; rw [List.getElem?_eq_none h]; rfl
  · obtain ⟨i1, q1, q2⟩ := hg i b h1
    obtain ⟨i2, q3, q4⟩ := hg j b h2
    have := hi.inj i1 i2 b q2 q4
    subst this
    have a1 := look_of hn q1
    rw [look_of hn q3] at a1
    exact (Option.some.inj a1).symm
  · have hjl : j < ids.length := by rw [hlen]; exact (List.getElem?_eq_some_iff.1 hpj).1
    have hij : ids[j]? = some ids[j] := List.getElem?_eq_getElem hjl
    obtain ⟨o, ho, hf⟩ := hp.get hij hpj
    have hoo := hi.ob _ o ho
    have eb : (calleeG g ids).blk j = g.blk ids[j] := by simp [calleeG, hij]
    have ec : (calleeG g ids).cap j = g.cap ids[j] := by simp only [calleeG]; rw [getD_some hij]
    have es : (calleeG g ids).sz j = g.sz ids[j] := by simp only [calleeG]; rw [getD_some hij]
    have hm : ∀ k, k < (calleeG g ids).n → g.blk (ids.getD k 0) = (calleeG g ids).blk k ∧ g.cap (ids.getD k 0) = (calleeG g ids).cap k ∧ g.sz (ids.getD k 0) = (calleeG g ids).sz k := by
      intro k hk
      have hk' : ids[k]? = some ids[k] := List.getElem?_eq_getElem hk
      exact ⟨by simp only [calleeG]; rw [getD_some hk', hk']; rfl, rfl, rfl⟩
    have hbelow := List.all_eq_true.1 hb _ (List.mem_of_getElem? hpj)
    have hnone := List.all_eq_true.1 hu _ (List.mem_of_getElem? hpj)
    cases hbx : isBox p with
    | false =>
      have := forget_buf hf hbx
      subst this
      cases p with
      | bx k et cs => cases hbx
      | map k l => cases hbx
      | buf mu e sz xs =>
        obtain ⟨h1, h2, h3, h4, h5⟩ := hoo
        exact ⟨by rw [es]; exact h1, h2, by rw [ec]; exact h3, by rw [ec]; exact h4, by rw [eb, ec]; exact h5⟩
      | iter s q => obtain ⟨b, h1, h2, h3⟩ := hoo; exact ⟨b, by rw [eb]; exact h1, h2, h3⟩
      | miter m since seen st =>
        obtain ⟨b, bm, h1, h2, h3, h4⟩ := hoo
        have hml : m < (calleeG g ids).n := by
          have : m < pre.length := by simpa [Ob.below] using hbelow
          simp only [calleeG]; omega
        exact ⟨b, bm, by rw [eb]; exact h1, hml, by rw [← (hm m hml).1]; exact h3, h4⟩
      | gone => trivial
    | true =>
      cases p with
      | bx k et cs =>
        cases k with
        | some c => cases hnone
        | none =>
          cases o with
          | bx k2 et2 cs2 =>
            simp only [Ob.forget, Ob.ren, Ob.bx.injEq, true_and] at hf
            obtain ⟨rfl, rfl⟩ := hf
            obtain ⟨b, e, us, h1, h2, h3, h4, h5, h6, h7⟩ := hoo
            refine ⟨b, e, us, by rw [eb]; exact h1, h2, by simpa using h3, h4, fun q u s hu' hs => ?_, h6, fun _ h => (by cases h), h7.2⟩
            have hsb := List.all_eq_true.1 hbelow s (List.mem_of_getElem? hs)
            refine RepS.unren (g := calleeG g ids) (g2 := g) rfl (by simp only [calleeG]; rw [hlen]; exact hsb) hm (h5 q u (s.ren ids) hu' ?_)
            rw [List.getElem?_map, hs]; rfl
          | _ => simp [Ob.forget, Ob.ren] at hf
      | map k l =>
        cases k with
        | some c => cases hnone
        | none =>
          cases o with
          | map k2 l2 =>
            simp only [Ob.forget, Ob.ren, Ob.map.injEq, true_and] at hf
            subst hf
            obtain ⟨b, es', h1, h2, h3, h4, h5, h6⟩ := hoo
            exact ⟨b, es', by rw [eb]; exact h1, h2, h3, h4, h5, fun _ h => (by cases h)⟩
          | _ => simp [Ob.forget, Ob.ren] at hf
      | _ => cases hbx

theorem RepSs.callee {g : Gh} {w : World} {ids : List Nat} {m : Nat} (hm' : ids.length = m) : ∀ (vs : List Value) (as : List SV), (∀ (j : Nat) v s, vs[j]? = some v → as[j]? = some s → RepS g w v (s.ren ids)) → vs.length = as.length → as.all (SV.bel m) = true → RepSs (calleeG g ids) w vs as
  | [], [], _, _, _ => trivial
  | v :: vs, s :: as, h, hl, hb => by
    simp only [List.all_cons, Bool.and_eq_true] at hb
    refine ⟨RepS.unren (g := calleeG g ids) (g2 := g) rfl (by simp only [calleeG]; rw [hm']; exact hb.1) (fun k hk => ?_) (h 0 v s rfl rfl), RepSs.callee hm' vs as (fun j v' s' h1 h2 => h (j + 1) v' s' (by simpa using h1) (by simpa using h2)) (by simpa using hl) hb.2⟩
    have hk' : ids[k]? = some ids[k] := List.getElem?_eq_getElem hk
    exact ⟨by simp only [calleeG]; rw [getD_some hk', hk']; rfl, rfl, rfl⟩
  | [], _ :: _, _, hl, _ => by simp at hl
  | _ :: _, [], _, hl, _ => by simp at hl

/-- the callee's names, and behind them names for what it has made -/
def idsOf (ids : List Nat) (n : Nat) (pre post : List Ob) : List Nat := ids ++ List.range' n (post.length - pre.length)
/-- the caller's objects behind the call -/
def ηOf (ids : List Nat) (pre post η : List Ob) : List Ob :=
  setAll (wipeη (bufsOf ids pre) ids η ++ List.replicate (post.length - pre.length) .gone) (idsOf ids η.length pre post) (post.map (Ob.ren (idsOf ids η.length pre post)))

theorem idsOf_get {ids : List Nat} {n : Nat} {pre post : List Ob} (hlen : ids.length = pre.length) {j i : Nat} (h : (idsOf ids n pre post)[j]? = some i) : (j < pre.length ∧ ids[j]? = some i) ∨ (pre.length ≤ j ∧ j < post.length ∧ i = n + (j - pre.length)) := by
  have h0 := h
  unfold idsOf at h h0
  rcases Nat.lt_or_ge j ids.length with hj | hj
  · rw [List.getElem?_append_left hj] at h; exact .inl ⟨by omega, h⟩
  · have hb := (List.getElem?_eq_some_iff.1 h0).1
    simp only [List.length_append, List.length_range'] at hb
    rw [List.getElem?_append_right hj, List.getElem?_range' (by omega)] at h
    injection h with h; exact .inr ⟨by omega, by omega, by omega⟩

theorem idsOf_nodup {ids : List Nat} {n : Nat} {pre post : List Ob} (hn : ids.Nodup) (hl : ∀ i ∈ ids, i < n) : (idsOf ids n pre post).Nodup := by
  unfold idsOf
  rw [List.nodup_append]
  refine ⟨hn, List.nodup_range', fun a ha b hb e => ?_⟩
  subst e
  have h1 := hl a ha
  rw [List.mem_range'_1] at hb
  omega

section
variable {C : Ctx} {σ : Sl} {η : List Ob}
theorem AbsG.called {g g' : Gh} {a : Act} {w w' : World} (h : AbsG C g σ η a w) {ids : List Nat} {pre post : List Ob} {v : Value} {res : SV} (hn : ids.Nodup) (hlen : ids.length = pre.length) (hp : Picks η ids pre) (hk : sameBoxes pre post = true) (hro : ids.all (fun i => Nat.ble C.ro i) = true)
    (hI : Inv g' w' post) (hres : RepS g' w' v res) (hF : Frame (calleeG g ids) w pre g' w') :
    ∃ g2, AbsG C g2 (wipeσ (bufsOf ids pre) ids σ) (ηOf ids pre post η) a w' ∧ RepS g2 w' v (res.ren (idsOf ids η.length pre post)) := by
  have hpl : pre.length ≤ post.length := sameBoxes_len hk
  have hgn := h.inv.n
  have hinl : ∀ i, i ∈ ids → i < g.n := by
    intro i hm
    obtain ⟨j, hj⟩ := List.mem_iff_getElem?.1 hm
    have hjl : j < pre.length := by rw [← hlen]; exact (List.getElem?_eq_some_iff.1 hj).1
    obtain ⟨o, ho, _⟩ := hp.get hj (List.getElem?_eq_getElem hjl)
    rw [h.inv.n]; exact (List.getElem?_eq_some_iff.1 ho).1
  have hgc : ∀ j b, (calleeG g ids).blk j = some b → ∃ i, ids[j]? = some i ∧ g.blk i = some b := by
    intro j b hb
    simp only [calleeG] at hb
    cases hj : ids[j]? with
    | none => simp [hj] at hb
    | some i => simp [hj] at hb; exact ⟨i, rfl, hb⟩
  have hown : ∀ j b, (calleeG g ids).blk j = some b → C.w0.heap.size ≤ b ∨ C.X b := by
    intro j b hb
    obtain ⟨i, hi, hb⟩ := hgc j b hb
    exact h.own i b hb (Nat.le_of_ble_eq_true (List.all_eq_true.1 hro i (List.mem_of_getElem? hi)))
  have hidl : (idsOf ids η.length pre post).length = post.length := by simp [idsOf, hlen]; omega
  have hnd : (idsOf ids η.length pre post).Nodup := idsOf_nodup hn fun i hi => by rw [← hgn]; exact hinl i hi
  have hmem : ∀ i, i ∈ idsOf ids η.length pre post ↔ i ∈ ids ∨ (η.length ≤ i ∧ i < η.length + (post.length - pre.length)) := by
    intro i; unfold idsOf; rw [List.mem_append, List.mem_range'_1]
  have hget : ∀ {j i : Nat}, (idsOf ids η.length pre post)[j]? = some i → (j < pre.length ∧ ids[j]? = some i) ∨ (pre.length ≤ j ∧ j < post.length ∧ i = η.length + (j - pre.length)) := fun hj => idsOf_get hlen hj
  have hgetl : ∀ {j i : Nat}, ids[j]? = some i → (idsOf ids η.length pre post)[j]? = some i := fun hj => by
    unfold idsOf; rw [List.getElem?_append_left (List.getElem?_eq_some_iff.1 hj).1]; exact hj
  generalize hidx : idsOf ids η.length pre post = idx at hidl hnd hmem hget hgetl
  let g2 := callerG g g' idx (g.n + (post.length - pre.length))
  have e_out : ∀ i, i ∉ idx → g2.blk i = g.blk i ∧ g2.cap i = g.cap i ∧ g2.sz i = g.sz i := by
    intro i hi
    have : look idx i = none := by
      cases hl : look idx i with
      | none => rfl
      | some j => exact absurd (List.mem_of_getElem? (look_some hl)) hi
    simp only [g2, callerG, this]; exact ⟨trivial, trivial, trivial⟩
  have e_in : ∀ j i, idx[j]? = some i → g2.blk i = g'.blk j ∧ g2.cap i = g'.cap j ∧ g2.sz i = g'.sz j := by
    intro j i hj
    simp only [g2, callerG, look_of hnd hj]; exact ⟨trivial, trivial, trivial⟩
  have hold : ∀ i, i < g.n → i ∉ ids → i ∉ idx := fun i hi hm hm2 => by
    rcases (hmem i).1 hm2 with h1 | h1
    · exact hm h1
    · omega
  have e_out' : ∀ i, i < g.n → i ∉ ids → g2.blk i = g.blk i ∧ g2.cap i = g.cap i ∧ g2.sz i = g.sz i := fun i hi hm => e_out i (hold i hi hm)
  have e_box : ∀ i, i < g.n → i ∉ bufsOf ids pre → g2.blk i = g.blk i := by
    intro i hig hi
    by_cases hm : i ∈ ids
    · obtain ⟨j, hj⟩ := List.mem_iff_getElem?.1 hm
      have hjl : j < pre.length := by rw [← hlen]; exact (List.getElem?_eq_some_iff.1 hj).1
      have hpj : pre[j]? = some pre[j] := List.getElem?_eq_getElem hjl
      cases hb : isBox pre[j] with
      | false => exact absurd (bufsOf_in hj hpj hb) hi
      | true => rw [(e_in j i (hgetl hj)).1, hF.box j _ hpj hb]; simp [calleeG, hj]
    · exact (e_out' i hig hm).1
  have kp : Keep g.St w g2.St w' := hF.keep
  have n2 : g.n ≤ g2.n := Nat.le_add_right _ _
  have rw_ : ∀ {u : Value} {s : SV}, RepS g w u s → RepS g2 w' u (s.wipe (bufsOf ids pre) ids) := fun r => r.wipe kp e_out' e_box n2
  have rm_ : ∀ j, j < g'.n → idx.getD j 0 < g2.n ∧ g2.blk (idx.getD j 0) = g'.blk j ∧ g2.cap (idx.getD j 0) = g'.cap j ∧ g2.sz (idx.getD j 0) = g'.sz j := fun j hj => by
    have hjl : j < idx.length := by rw [hidl, ← hI.n]; exact hj
    have hj' : idx[j]? = some idx[j] := List.getElem?_eq_getElem hjl
    rw [getD_some hj']
    refine ⟨?_, e_in j _ hj'⟩
    show idx[j] < g.n + (post.length - pre.length)
    rcases (hmem idx[j]).1 (List.getElem_mem hjl) with h1 | h1
    · have := hinl _ h1; omega
    · omega
  have rn_ : ∀ {u : Value} {s : SV}, RepS g' w' u s → RepS g2 w' u (s.ren idx) := fun r => RepS.ren (g := g') (g2 := g2) rfl rm_ r
  have hblk : ∀ i b, g2.blk i = some b → (i ∉ idx ∧ g.blk i = some b) ∨ ∃ j, idx[j]? = some i ∧ g'.blk j = some b := by
    intro i b hb
    cases hl : look idx i with
    | none => exact .inl ⟨look_none hl, by rw [← (e_out i (look_none hl)).1]; exact hb⟩
    | some j => exact .inr ⟨j, look_some hl, by rw [← (e_in j i (look_some hl)).1]; exact hb⟩
  -- a block of another object is none of the callee's
  have hforeign : ∀ i b, i ∉ ids → g.blk i = some b → ∀ j, (calleeG g ids).blk j ≠ some b := by
    intro i b hi hb j hj
    obtain ⟨i2, q1, q2⟩ := hgc j b hj
    have := h.inv.inj i i2 b hb q2
    exact hi (this ▸ List.mem_of_getElem? q1)
  have hnotin : ∀ i, i ∉ idx → i ∉ ids := fun i hi hm => hi ((hmem i).2 (.inl hm))
  have hlenw : (wipeη (bufsOf ids pre) ids η ++ List.replicate (post.length - pre.length) Ob.gone).length = η.length + (post.length - pre.length) := by rw [List.length_append, wipeη_len, List.length_replicate]
  unfold ηOf
  rw [hidx]
  refine ⟨g2, ⟨h.defers, h.size, ⟨by rw [setAll_len, hlenw, ← hgn]; rfl, fun i b hb => ?_, fun i hi => ?_, fun i j b hbi hbj => ?_, fun i o ho => ?_, hI.st, hI.gl⟩, hF.os.trans h.os, hF.tape.trans h.tape, hF.output.trans h.output, Nat.le_trans h.wsize hF.size,
    fun k hk hx => ?_, h.keep.trans kp, fun b o hb => ?_, fun i b hb hr => ?_, fun t => ?_⟩, rn_ hres⟩
  · rcases hblk i b hb with ⟨_, h1⟩ | ⟨j, _, h1⟩
    · exact Nat.lt_of_lt_of_le (h.inv.lt i b h1) hF.size
    · exact hI.lt j b h1
  · have hi : g.n + (post.length - pre.length) ≤ i := hi
    have hm : i ∉ idx := fun hm => by
      rcases (hmem i).1 hm with h1 | h1
      · have := hinl i h1; omega
      · omega
    rw [(e_out i hm).1]; exact h.inv.dead i (by omega)
  · rcases hblk i b hbi with ⟨q1, q2⟩ | ⟨j1, q1, q2⟩ <;> rcases hblk j b hbj with ⟨q3, q4⟩ | ⟨j2, q3, q4⟩
    · exact h.inv.inj i j b q2 q4
    · exfalso
      rcases hF.own j2 b q4 with h1 | ⟨k, h1⟩
      · have := h.inv.lt i b q2; omega
      · exact hforeign i b (hnotin i q1) q2 k h1
    · exfalso
      rcases hF.own j1 b q2 with h1 | ⟨k, h1⟩
      · have := h.inv.lt j b q4; omega
      · exact hforeign j b (hnotin j q3) q4 k h1
    · have := hI.inj j1 j2 b q2 q4
      subst this
      rw [q1] at q3; exact Option.some.inj q3
  · -- the objects
    by_cases hm : i ∈ idx
    · obtain ⟨j, hj⟩ := List.mem_iff_getElem?.1 hm
      have hjl : j < post.length := by rw [← hidl]; exact (List.getElem?_eq_some_iff.1 hj).1
      have hqj : post[j]? = some post[j] := List.getElem?_eq_getElem hjl
      have hoo := hI.ob j _ hqj
      obtain ⟨eb, ec, es⟩ := e_in j i hj
      -- what lay there
      obtain ⟨was, hwas, hanchor⟩ : ∃ was, (wipeη (bufsOf ids pre) ids η ++ List.replicate (post.length - pre.length) Ob.gone)[i]? = some was ∧
          (boxKind was = boxKind post[j] ∧ (isBox was = true → g.blk i = g'.blk j ∧ ∃ old, η[i]? = some old ∧ was = old.wipe (bufsOf ids pre) ids) ∨ was = .gone) := by
        rcases hget hj with ⟨hjp, hij⟩ | ⟨hjp, _, hij⟩
        · have hpj : pre[j]? = some pre[j] := List.getElem?_eq_getElem hjp
          obtain ⟨old, hold', hfo⟩ := hp.get hij hpj
          have hil : i < η.length := (List.getElem?_eq_some_iff.1 hold').1
          refine ⟨old.wipe (bufsOf ids pre) ids, by rw [List.getElem?_append_left (by rw [wipeη_len]; exact hil), wipeη_get, hold']; rfl, ?_⟩
          have hs := sameBoxes_get hk j _ _ hpj hqj
          have hko : boxKind old = boxKind pre[j] := by
            have h1 : boxKind old.forget = boxKind old := by cases old <;> rfl
            have h2 : boxKind (pre[j].ren ids) = boxKind pre[j] := by cases pre[j] <;> rfl
            rw [← h1, hfo, h2]
          have hkw : boxKind (old.wipe (bufsOf ids pre) ids) = boxKind old := by
            cases old with
            | miter m since seen st => simp only [Ob.wipe]; split <;> rfl
            | _ => rfl
          refine .inl ⟨hkw.trans (hko.trans hs), fun hb => ⟨?_, old, hold', rfl⟩⟩
          have hbp : isBox pre[j] = true := isBox_kind.2 (by rw [← hko, ← hkw]; exact isBox_kind.1 hb)
          rw [hF.box j _ hpj hbp]; simp [calleeG, hij]
        · exact ⟨.gone, by rw [List.getElem?_append_right (by rw [wipeη_len]; omega), wipeη_len, List.getElem?_replicate, if_pos (by omega)], .inr rfl⟩
      have hset := setAll_in _ idx (post.map (Ob.ren idx)) j i was (post[j].ren idx) hnd hj (by rw [List.getElem?_map, hqj]; rfl) hwas
      rw [hset] at ho
      injection ho with ho
      generalize post[j] = q at hoo ho hanchor
      cases q with
      | bx k et cs =>
        obtain ⟨b, e, us, h1, h2, h3, h4, h5, h6, h7⟩ := hoo
        have key : ∀ k', (∀ c, k' = some c → c = b) → ObOk g2 w' i (.bx k' et (cs.map (SV.ren idx))) := fun k' hk' => by
          refine ⟨b, e, us, by rw [eb]; exact h1, h2, by simpa using h3, h4, fun m u s hu hs => ?_, h6, hk', h7.2⟩
          rw [List.getElem?_map] at hs
          cases hcs : cs[m]? with
          | none => simp [hcs] at hs
          | some s0 => simp [hcs] at hs; subst hs; exact rn_ (h5 m u s0 hu hcs)
        rcases hanchor with ⟨h8, h9⟩ | rfl
        · cases was with
          | bx k2 et2 cs2 =>
            subst ho
            obtain ⟨h10, old, h11, h12⟩ := h9 rfl
            refine key k2 fun c hc => ?_
            have hoo2 := h.inv.ob i old h11
            cases old with
            | bx k3 et3 cs3 =>
              simp only [Ob.wipe, Ob.bx.injEq] at h12
              obtain ⟨b2, e2, us2, o1, o2, o3, o4, o5, o6, o7⟩ := hoo2
              rw [o1, h1] at h10
              injection h10 with h10
              rw [← h10]; exact o7.1 c (by rw [← h12.1]; exact hc)
            | miter m since seen st => simp only [Ob.wipe] at h12; split at h12 <;> cases h12
            | _ => simp [Ob.wipe] at h12
          | _ => cases h8
        · subst ho
          exact key k h7.1
      | map k l =>
        obtain ⟨b, es', h1, h2, h3, h4, h5, h6⟩ := hoo
        have key : ∀ k', (∀ c, k' = some c → c = b) → ObOk g2 w' i (.map k' l) := fun k' hk' => ⟨b, es', by rw [eb]; exact h1, h2, h3, h4, h5, hk'⟩
        rcases hanchor with ⟨h8, h9⟩ | rfl
        · cases was with
          | map k2 l2 =>
            subst ho
            obtain ⟨h10, old, h11, h12⟩ := h9 rfl
            refine key k2 fun c hc => ?_
            have hoo2 := h.inv.ob i old h11
            cases old with
            | map k3 l3 =>
              simp only [Ob.wipe, Ob.map.injEq] at h12
              obtain ⟨b2, es2, o1, o2, o3, o4, o5, o6⟩ := hoo2
              rw [o1, h1] at h10
              injection h10 with h10
              rw [← h10]; exact o6 c (by rw [← h12.1]; exact hc)
            | miter m since seen st => simp only [Ob.wipe] at h12; split at h12 <;> cases h12
            | _ => simp [Ob.wipe] at h12
          | _ => cases h8
        · subst ho
          exact key k h6
      | buf mu e sz xs =>
        have ho : Ob.buf mu e sz xs = o := by cases was <;> exact ho
        subst ho
        obtain ⟨h1, h2, h3, h4, h5⟩ := hoo
        exact ⟨by rw [es]; exact h1, h2, by rw [ec]; exact h3, by rw [ec]; exact h4, by rw [eb, ec]; exact h5⟩
      | iter s p =>
        have ho : Ob.iter s p = o := by cases was <;> exact ho
        subst ho
        obtain ⟨b, h1, h2, h3⟩ := hoo; exact ⟨b, by rw [eb]; exact h1, h2, h3⟩
      | miter m since seen st =>
        have ho : Ob.miter (idx.getD m 0) since seen st = o := by cases was <;> exact ho
        subst ho
        obtain ⟨b, bm, h1, h2, h3, h4⟩ := hoo
        obtain ⟨r1, r2, _⟩ := rm_ m h2
        exact ⟨b, bm, by rw [eb]; exact h1, r1, by rw [r2]; exact h3, h4⟩
      | gone =>
        have ho : Ob.gone = o := by cases was <;> exact ho
        subst ho; trivial
    · rw [setAll_out _ _ _ i hm] at ho
      have hil : i < η.length := by
        have h1 := (List.getElem?_eq_some_iff.1 ho).1
        rw [hlenw] at h1
        rcases Nat.lt_or_ge i η.length with h2 | h2
        · exact h2
        · exact absurd ((hmem i).2 (.inr ⟨h2, h1⟩)) hm
      rw [List.getElem?_append_left (by rw [wipeη_len]; exact hil), wipeη_get] at ho
      have hmi := hnotin i hm
      cases hq : η[i]? with
      | none => simp [hq] at ho
      | some q =>
        simp [hq] at ho; subst ho
        have hoo := h.inv.ob i q hq
        obtain ⟨eb, ec, es⟩ := e_out i hm
        have hh : ∀ b, g.blk i = some b → w'.heap[b]? = w.heap[b]? ∧ ∀ o, g2.St b o ↔ g.St b o := by
          intro b hb
          have hf := hforeign i b hmi hb
          refine ⟨hF.heap b (h.inv.lt i b hb) hf, fun o => ⟨fun ho => ?_, fun ho => kp.sub b o ho⟩⟩
          rcases hF.new b o ho with h1 | h1 | ⟨j, h1⟩
          · exact h1
          · have := h.inv.lt i b hb; omega
          · exact absurd h1 (hf j)
        cases q with
        | bx k et cs =>
          obtain ⟨b, e, us, h1, h2, h3, h4, h5, h6, h7⟩ := hoo
          refine ⟨b, e, us, by rw [eb]; exact h1, (hh b h1).1.trans h2, by simpa using h3, h4, fun m u s hu hs => ?_, fun o ho => h6 o (((hh b h1).2 o).1 ho), h7⟩
          rw [List.getElem?_map] at hs
          cases hcs : cs[m]? with
          | none => simp [hcs] at hs
          | some s0 => simp [hcs] at hs; subst hs; exact rw_ (h5 m u s0 hu hcs)
        | buf mu e sz xs =>
          obtain ⟨h1, h2, h3, h4, h5⟩ := hoo
          refine ⟨by rw [es]; exact h1, h2, by rw [ec]; exact h3, by rw [ec]; exact h4, ?_⟩
          rcases h5 with h5 | ⟨b, us, h5, h6, h7, h8, h9, h10⟩
          · exact .inl (by rw [eb, ec]; exact h5)
          · exact .inr ⟨b, us, by rw [eb]; exact h5, (hh b h5).1.trans h6, by rw [ec]; exact h7, h8, fun m u d hu hd => (h9 m u d hu hd).keep kp, fun o => ((hh b h5).2 o).trans (h10 o)⟩
        | iter s p =>
          obtain ⟨b, h1, h2, h3⟩ := hoo
          exact ⟨b, by rw [eb]; exact h1, (hh b h1).1.trans h2, fun o ho => h3 o (((hh b h1).2 o).1 ho)⟩
        | map kb l =>
          obtain ⟨b, es', h1, h2, h3, h4, h5, h6⟩ := hoo
          exact ⟨b, es', by rw [eb]; exact h1, (hh b h1).1.trans h2, h3, fun j e p he hp => ⟨(h4 j e p he hp).1, (h4 j e p he hp).2.1, (h4 j e p he hp).2.2.keep kp⟩, fun o ho => h5 o (((hh b h1).2 o).1 ho), h6⟩
        | miter m since seen st =>
          simp only [Ob.wipe]
          cases hmb : (bufsOf ids pre).any (Nat.beq m) with
          | true => trivial
          | false =>
            obtain ⟨b, bm, h1, h2, h3, h4, h5⟩ := hoo
            exact ⟨b, bm, by rw [eb]; exact h1, Nat.lt_of_lt_of_le h2 n2, by rw [e_box m h2 (any_beq_f hmb)]; exact h3, (hh b h1).1.trans h4, fun o ho => h5 o (((hh b h1).2 o).1 ho)⟩
        | gone => trivial
  · refine (hF.heap k (Nat.lt_of_lt_of_le hk h.wsize) fun j hj => ?_).trans (h.heap k hk hx)
    rcases hown j k hj with h1 | h1
    · omega
    · exact hx h1
  · rcases hF.new b o hb with h1 | h1 | ⟨j, h1⟩
    · exact h.new b o h1
    · exact .inr (.inl (Nat.le_trans h.wsize h1))
    · exact .inr (hown j b h1)
  · rcases hblk i b hb with ⟨_, h1⟩ | ⟨j, _, h1⟩
    · exact h.own i b h1 hr
    · rcases hF.own j b h1 with h2 | ⟨k, h2⟩
      · exact .inl (Nat.le_trans h.wsize h2)
      · exact hown k b h2
  · rw [get_wipe]; exact rw_ (h.rep t)

/-- as many objects behind as ahead -/
def sameAll : List Ob → List Ob → Bool
  | [], [] => true
  | o :: r, p :: s => Nat.beq (boxKind o) (boxKind p) && sameAll r s
  | _, _ => false
theorem sameAll_same : ∀ {l m : List Ob}, sameAll l m = true → sameBoxes l m = true ∧ l.length = m.length
  | [], [], _ => ⟨rfl, rfl⟩
  | o :: r, p :: s, h => by
    simp only [sameAll, Bool.and_eq_true] at h
    obtain ⟨h1, h2⟩ := sameAll_same h.2
    exact ⟨by simp only [sameBoxes, Bool.and_eq_true]; exact ⟨h.1, h1⟩, by simp [h2]⟩
  | [], _ :: _, h => by cases h
  | _ :: _, [], h => by cases h
theorem ηOf_same {ids : List Nat} {pre post η : List Ob} (h : pre.length = post.length) : ηOf ids pre post η = setAll (wipeη (bufsOf ids pre) ids η) ids (post.map (Ob.ren ids)) ∧ idsOf ids η.length pre post = ids := by
  simp [ηOf, idsOf, h]
end

/-- the arguments, as the callee names them -/
def SArgs (σ : Sl) (ids : List Nat) : List Operand → List SV → Prop
  | [], [] => True
  | x :: xs, s :: ss => oval σ x = s.ren ids ∧ SArgs σ ids xs ss
  | _, _ => False
theorem SArgs_nil {σ : Sl} {ids : List Nat} : SArgs σ ids [] [] := trivial
theorem SArgs_cons {σ : Sl} {ids : List Nat} {x : Operand} {xs : List Operand} {s : SV} {ss : List SV} (h : oval σ x = s.ren ids) (r : SArgs σ ids xs ss) : SArgs σ ids (x :: xs) (s :: ss) := ⟨h, r⟩
theorem SArgs.rep {C : Ctx} {g : Gh} {σ : Sl} {η : List Ob} {a : Act} {w : World} (ha : AbsG C g σ η a w) {ids : List Nat} : ∀ (xs : List Operand) (ss : List SV), SArgs σ ids xs ss → xs.length = ss.length ∧ ∀ (j : Nat) v s, (xs.map a.eval)[j]? = some v → ss[j]? = some s → RepS g w v (s.ren ids)
  | [], [], _ => ⟨rfl, fun j v s h => by simp at h⟩
  | x :: xs, s :: ss, ⟨h1, h2⟩ => by
    obtain ⟨e1, e2⟩ := SArgs.rep ha xs ss h2
    refine ⟨by simp [e1], fun j v s' hv hs => ?_⟩
    match j with
    | 0 =>
      simp at hv hs; subst hv; subst hs
      have := ha.eval x; rw [h1] at this; exact this
    | j + 1 => exact e2 j v s' (by simpa using hv) (by simpa using hs)
  | [], _ :: _, h => h.elim
  | _ :: _, [], h => h.elim

section
variable {C : Ctx} {ops : Array Oper} {rest : List Oper} {K : Sl → List Ob → Prop} {σ : Sl} {η : List Ob} {d : Nat} {ty : TypeId} {pos : String} {after : Array Edge} {gd : Option (Nat × Bool)}
/-- the call of a function by its name -/
theorem aMCall {f : FuncId} {args : List Operand} {ts : Array TypeId} {as : List SV} {pre post : List Ob} {res : SV} (ids : List Nat) (hb : hasBody C.P f = true) (hc : MCall C.P f as pre res post) (ha : SArgs σ ids args as) (hp : Picks η ids pre) (hd : Nat.blt d C.N = true)
    (hn : ids.Nodup) (hlen : ids.length = pre.length) (hu : unlaid pre = true) (hbl : pre.all (Ob.below pre.length) = true) (hba : as.all (SV.bel pre.length) = true) (hk : sameAll pre post = true) (hro : ids.all (fun i => Nat.ble C.ro i) = true)
    (h : alex C false ops rest K ((d, res.ren ids) :: wipeσ (bufsOf ids pre) ids σ) (setAll (wipeη (bufsOf ids pre) ids η) ids (post.map (Ob.ren ids)))) :
    astep C false ops ⟨some d, .call ⟨.value (.func f), args.toArray, ts⟩, ty, pos, after, gd⟩ rest K σ η := by
  intro Q hQ a w ⟨g, hg⟩ K' hK'
  obtain ⟨e1, e2⟩ := ha.rep hg
  unfold Oper.wp
  have hrun : (execOp a.eval ⟨some d, .call ⟨.value (.func f), args.toArray, ts⟩, ty, pos, after, gd⟩).run C.P w = .ok (.enter f (args.map a.eval).toArray) w := by
    simp only [execOp, resolve, Act.eval, Deferred.ofValue, invoke, Sem.run_bind, Sem.run_pure, Result.andThen_ok, List.map_toArray, Array.empty_append, Array.append_empty]
    exact hasBody_run hb
  rw [hrun, Oper.upon_enter]
  have hr := RepSs.callee (g := g) (w := w) hlen (args.map a.eval) as e2 (by simp [e1]) hba
  refine (hc (calleeG g ids) w _ (hg.inv.callee hn hlen hp hu hbl) hr).mono fun e w' ⟨v, g', he, hI, hres, hF⟩ => ?_
  subst he
  obtain ⟨hk1, hk2⟩ := sameAll_same hk
  obtain ⟨g2, h1, h2⟩ := hg.called hn hlen hp hk1 hro hI hres hF
  obtain ⟨e3, e4⟩ := ηOf_same (ids := ids) (η := η) hk2
  rw [e3] at h1; rw [e4] at h2
  exact hK' _ _ (h Q hQ _ w' ⟨g2, h1.put (d := some d) hd h2⟩)
/-- the call of a function by its name, that makes objects -/
theorem aNCall {f : FuncId} {args : List Operand} {ts : Array TypeId} {as : List SV} {pre post : List Ob} {res : SV} (ids : List Nat) (hb : hasBody C.P f = true) (hc : MCall C.P f as pre res post) (ha : SArgs σ ids args as) (hp : Picks η ids pre) (hd : Nat.blt d C.N = true)
    (hn : ids.Nodup) (hlen : ids.length = pre.length) (hu : unlaid pre = true) (hbl : pre.all (Ob.below pre.length) = true) (hba : as.all (SV.bel pre.length) = true) (hk : sameBoxes pre post = true) (hro : ids.all (fun i => Nat.ble C.ro i) = true)
    (h : alex C false ops rest K ((d, res.ren (idsOf ids η.length pre post)) :: wipeσ (bufsOf ids pre) ids σ) (ηOf ids pre post η)) :
    astep C false ops ⟨some d, .call ⟨.value (.func f), args.toArray, ts⟩, ty, pos, after, gd⟩ rest K σ η := by
  intro Q hQ a w ⟨g, hg⟩ K' hK'
  obtain ⟨e1, e2⟩ := ha.rep hg
  unfold Oper.wp
  have hrun : (execOp a.eval ⟨some d, .call ⟨.value (.func f), args.toArray, ts⟩, ty, pos, after, gd⟩).run C.P w = .ok (.enter f (args.map a.eval).toArray) w := by
    simp only [execOp, resolve, Act.eval, Deferred.ofValue, invoke, Sem.run_bind, Sem.run_pure, Result.andThen_ok, List.map_toArray, Array.empty_append, Array.append_empty]
    exact hasBody_run hb
  rw [hrun, Oper.upon_enter]
  have hr := RepSs.callee (g := g) (w := w) hlen (args.map a.eval) as e2 (by simp [e1]) hba
  refine (hc (calleeG g ids) w _ (hg.inv.callee hn hlen hp hu hbl) hr).mono fun e w' ⟨v, g', he, hI, hres, hF⟩ => ?_
  subst he
  obtain ⟨g2, h1, h2⟩ := hg.called hn hlen hp hk hro hI hres hF
  exact hK' _ _ (h Q hQ _ w' ⟨g2, h1.put (d := some d) hd h2⟩)
end
end Go.Sx
/- Whole numbers below 2^53 as float64: their words, sums and order are exact. Nothing here speaks of one program. -/
namespace Go.Fl
open Ieee
def Fd (n : Nat) : Nat := double.nearest false n 0
theorem gap_cut (neg : Bool) (n drop : Nat) (h : drop ≤ n.log2 + 2) (hd : 2 ^ drop ∣ n) : Toward.even.cut neg n drop = n / 2 ^ drop := by
  have hr : n % 2 ^ drop = 0 := Nat.mod_eq_zero_of_dvd hd
  have hp : 0 < 2 ^ drop := Nat.two_pow_pos _
  unfold Toward.cut
  rw [Nat.min_eq_left h, Nat.one_shiftLeft]
  simp only [hr, Nat.mul_zero]
  have h2 : (2 ^ drop == 0) = false := by rw [beq_eq_false_iff_ne]; omega
  simp [h2]
theorem log2_mul (n k : Nat) (h : n ≠ 0) : (n * 2 ^ k).log2 = n.log2 + k := by
  refine (Nat.log2_eq_iff (by have := Nat.two_pow_pos k; exact Nat.mul_ne_zero h (by omega))).2 ⟨?_, ?_⟩
  · rw [Nat.pow_add]; exact Nat.mul_le_mul_right _ (Nat.log2_self_le h)
  · rw [show n.log2 + k + 1 = (n.log2 + 1) + k by omega, Nat.pow_add]
    exact Nat.mul_lt_mul_of_pos_right Nat.lt_log2_self (Nat.two_pow_pos k)
theorem log2_lt {n : Nat} (h0 : n ≠ 0) (h : n < 2 ^ 53) : n.log2 ≤ 52 := by
  have := (Nat.log2_lt h0).2 h; omega
theorem lp : double.leastPlace = -1074 := by decide
theorem word_min (x m b52 c d : Nat) (h1 : x ≤ c) (h2 : m < d) (h3 : c + d ≤ b52 := by decide) : double.word false (min (x + m) b52) = x + m := by
  show min (x + m) b52 = x + m
  omega
/-- the word of n -/
theorem word_of (n k : Nat) (h0 : n ≠ 0) (h : n < 2 ^ 53) : double.nearest false (n * 2 ^ k) (-(k : Int)) = (1022 + n.log2) * 2 ^ 52 + n * 2 ^ (52 - n.log2) := by
  have hl := log2_lt h0 h
  have hp := Nat.two_pow_pos k
  have hm : n * 2 ^ k ≠ 0 := Nat.mul_ne_zero h0 (by omega)
  unfold Format.nearest
  rw [if_neg hm, log2_mul n k h0, lp]
  have e1 : max (-(k : Int) + ((n.log2 + k : Nat) : Int) - (double.fractionBits : Nat)) (-1074) = (n.log2 : Int) - 52 := by
    show max (-(k : Int) + ((n.log2 + k : Nat) : Int) - (52 : Nat)) (-1074) = (n.log2 : Int) - 52
    omega
  simp only [e1]
  have e2 : Toward.even.cut false ((n * 2 ^ k) <<< (-(k : Int) - ((n.log2 : Int) - 52)).toNat) (((n.log2 : Int) - 52) - (-(k : Int))).toNat = n * 2 ^ (52 - n.log2) := by
    rcases Nat.le_total k (52 - n.log2) with hk | hk
    · have a1 : (-(k : Int) - ((n.log2 : Int) - 52)).toNat = 52 - n.log2 - k := by omega
      have a2 : (((n.log2 : Int) - 52) - (-(k : Int))).toNat = 0 := by omega
      rw [a1, a2, gap_cut _ _ _ (Nat.zero_le _) (by simp), Nat.shiftLeft_eq, Nat.mul_assoc, ← Nat.pow_add, show k + (52 - n.log2 - k) = 52 - n.log2 by omega]
      simp
    · have a1 : (-(k : Int) - ((n.log2 : Int) - 52)).toNat = 0 := by omega
      obtain ⟨j, rfl⟩ : ∃ j, k = (52 - n.log2) + j := ⟨k - (52 - n.log2), by omega⟩
      have a2 : (((n.log2 : Int) - 52) - (-(((52 - n.log2) + j : Nat) : Int))).toNat = j := by omega
      rw [a1, a2, Nat.shiftLeft_zero, gap_cut _ _ _ (by rw [log2_mul n _ h0]; omega) (by rw [Nat.pow_add, ← Nat.mul_assoc]; exact Nat.dvd_mul_left _ _)]
      rw [Nat.pow_add, ← Nat.mul_assoc, Nat.mul_div_cancel _ (Nat.two_pow_pos j)]
  rw [e2]
  have e3 : ((n.log2 : Int) - 52 - -1074).toNat = 1022 + n.log2 := by omega
  rw [e3]
  have e4 : double.binade = 2 ^ 52 := by decide
  have e5 : double.infRung = 2047 * 2 ^ 52 := by decide
  have e6 : n * 2 ^ (52 - n.log2) < 2 ^ 53 := by
    have := Nat.mul_lt_mul_of_pos_right (Nat.lt_log2_self (n := n)) (Nat.two_pow_pos (52 - n.log2))
    rwa [← Nat.pow_add, show n.log2 + 1 + (52 - n.log2) = 53 by omega] at this
  rw [e4, e5]
  have e7 : (1022 + n.log2) * 2 ^ 52 ≤ 1074 * 2 ^ 52 := Nat.mul_le_mul_right _ (by omega)
  exact word_min _ _ _ _ _ e7 e6 (by decide)
theorem near_scale (n k : Nat) (h : n < 2 ^ 53) : double.nearest false (n * 2 ^ k) (-(k : Int)) = Fd n := by
  by_cases h0 : n = 0
  · subst h0; simp [Fd, Format.nearest]
  · have h1 := word_of n 0 h0 h
    rw [word_of n k h0 h, ← h1, Fd]; simp
theorem read_0 : ∃ i : Nat, double.read (Fd 0) = .number false (0 * 2 ^ i) (-(i : Int)) := by
  refine ⟨(-double.leastPlace).toNat, ?_⟩
  rw [show Fd 0 = 0 by simp [Fd, Format.nearest, Format.word], Nat.zero_mul, lp]; decide
theorem read_Fd (n : Nat) (h : n < 2 ^ 53) : ∃ i : Nat, double.read (Fd n) = .number false (n * 2 ^ i) (-(i : Int)) := by
  by_cases h0 : n = 0
  · subst h0; exact read_0
  · have hl := log2_lt h0 h
    refine ⟨52 - n.log2, ?_⟩
    have hw := word_of n 0 h0 h
    simp only [Nat.pow_zero, Nat.mul_one, Int.natCast_zero, Int.neg_zero] at hw
    have e6 : n * 2 ^ (52 - n.log2) < 2 ^ 53 := by
      have := Nat.mul_lt_mul_of_pos_right (Nat.lt_log2_self (n := n)) (Nat.two_pow_pos (52 - n.log2))
      rwa [← Nat.pow_add, show n.log2 + 1 + (52 - n.log2) = 53 by omega] at this
    have e7 : 2 ^ 52 ≤ n * 2 ^ (52 - n.log2) := by
      have := Nat.mul_le_mul_right (2 ^ (52 - n.log2)) (Nat.log2_self_le h0)
      rwa [← Nat.pow_add, show n.log2 + (52 - n.log2) = 52 by omega] at this
    rw [Fd, hw]
    generalize n * 2 ^ (52 - n.log2) = m at *
    obtain ⟨r, rfl⟩ : ∃ r, m = 2 ^ 52 + r := ⟨m - 2 ^ 52, by omega⟩
    have hr : r < 2 ^ 52 := by omega
    have e8 : (1022 + n.log2) * 2 ^ 52 + (2 ^ 52 + r) = (1023 + n.log2) * 2 ^ 52 + r := by omega
    rw [e8]
    have s1 : double.signWeight = 2 ^ 63 := by decide
    have s2 : double.binade = 2 ^ 52 := by decide
    have s3 : double.infRung = 2047 * 2 ^ 52 := by decide
    have b1 : (1023 + n.log2) * 2 ^ 52 ≤ 1075 * 2 ^ 52 := Nat.mul_le_mul_right _ (by omega)
    have b2 : 1023 * 2 ^ 52 ≤ (1023 + n.log2) * 2 ^ 52 := Nat.mul_le_mul_right _ (by omega)
    unfold Format.read
    rw [s1, s2, s3, lp]
    have q1 : ((1023 + n.log2) * 2 ^ 52 + r) / 2 ^ 63 = 0 := Nat.div_eq_of_lt (by omega)
    have q2 : ((1023 + n.log2) * 2 ^ 52 + r) % 2 ^ 63 = (1023 + n.log2) * 2 ^ 52 + r := Nat.mod_eq_of_lt (by omega)
    have q3 : ((1023 + n.log2) * 2 ^ 52 + r) % 2 ^ 52 = r := by rw [Nat.add_comm, Nat.add_mul_mod_self_right]; exact Nat.mod_eq_of_lt hr
    have q4 : ((1023 + n.log2) * 2 ^ 52 + r) / 2 ^ 52 = 1023 + n.log2 := by rw [Nat.add_comm, Nat.add_mul_div_right _ _ (Nat.two_pow_pos 52), Nat.div_eq_of_lt hr]; omega
    simp only [q1, q2, q3, q4]
    rw [if_neg (by omega), if_pos (by omega)]
    congr 1
    omega
theorem signed_sh (a i : Nat) (base : Int) (h : base ≤ -(i : Int)) : signed false (a * 2 ^ i) (-(i : Int) - base).toNat = (a : Int) * 2 ^ (-base).toNat := by
  unfold signed
  rw [if_neg (by decide), Nat.shiftLeft_eq, Nat.mul_assoc, ← Nat.pow_add, show i + (-(i : Int) - base).toNat = (-base).toNat by omega]
  simp
theorem add_Fd (a b : Nat) (h : a + b < 2 ^ 53) : double.add (Fd a) (Fd b) = some (Fd (a + b)) := by
  obtain ⟨i, hi⟩ := read_Fd a (by omega)
  obtain ⟨j, hj⟩ := read_Fd b (by omega)
  unfold Format.add
  rw [hi, hj]
  simp only [Datum.sum, Option.map_some]
  generalize hb : min (-(i : Int)) (-(j : Int)) = base
  rw [signed_sh a i base (by omega), signed_sh b j base (by omega), ← Int.add_mul]
  obtain ⟨k, rfl⟩ : ∃ k : Nat, base = -(k : Int) := ⟨(-base).toNat, by omega⟩
  have e1 : (-(-(k : Int))).toNat = k := by omega
  rw [e1]
  have e2 : ((a : Int) + b) * 2 ^ k = (((a + b) * 2 ^ k : Nat) : Int) := by simp
  rw [e2]
  have e3 : (if (((a + b) * 2 ^ k : Nat) : Int) = 0 then false && false else decide ((((a + b) * 2 ^ k : Nat) : Int) < 0)) = false := by
    split
    · rfl
    · exact decide_eq_false (by omega)
  rw [e3, Int.natAbs_natCast]
  show some (double.nearest false _ _) = _
  rw [near_scale _ _ h]
theorem order_Fd (a b : Nat) (ha : a < 2 ^ 53) (hb : b < 2 ^ 53) : double.order (Fd a) (Fd b) = some (compare (a : Int) (b : Int)) := by
  obtain ⟨i, hi⟩ := read_Fd a ha
  obtain ⟨j, hj⟩ := read_Fd b hb
  unfold Format.order
  rw [hi, hj]
  simp only [Datum.order]
  generalize hbs : min (-(i : Int)) (-(j : Int)) = base
  rw [signed_sh a i base (by omega), signed_sh b j base (by omega)]
  have hp : (0 : Int) < 2 ^ (-base).toNat := Int.pow_pos (by decide)
  congr 1
  rw [Int.compare_eq_ite_lt, Int.compare_eq_ite_lt]
  simp only [Int.mul_lt_mul_right hp]
end Go.Fl
/- The engine: rows of bytes appended to from a text and read as a text; float64 and complex128 at whole numbers. -/
namespace Go.Sx
open Go.RowKit Go.Lib

/-! ### append of a text -/
theorem run_append_str {P : Program} (w : World) (t u ty e : TypeId) (i : TypeInfo) (ht : P.underlying t = some (.slice e)) (hut : P.underlying u = some .string) (hi : P.info? e = some i) (hz : i.zero = some (.int .u8 0)) (hs1 : i.size = 1) (hby : i.bytes = 1)
    (ob : Option Nat) (n cap : Nat) (us : Array Value) (hob : (ob = none ∧ cap = 0 ∧ n = 0) ∨ ∃ b, ob = some b ∧ w.heap[b]? = some (.cells us e (0, 0)) ∧ us.size = cap * 1 ∧ n ≤ cap)
    (s : ByteArray) (hbytes : n + s.size ≤ 140737488355328) (hcm : cap ≤ maxLen) : AppRun P #[t, u] ty e 1 w ob n cap us (.string s) s.size (strCells s) := by
  have hnl := strCells_length s
  have h1 := strCells_oneCell s
  have hzs : (Value.int IntKind.u8 0).cells.size = 1 := rfl
  have h63 : n + s.size ≤ maxLen := by simp only [maxLen]; omega
  unfold AppRun
  by_cases hm : s.size = 0
  · have hn : strCells s = [] := List.eq_nil_of_length_eq_zero (by rw [hnl]; exact hm)
    have hf := run_firstCells_string (P := P) w 1 s
    rw [hm] at hf
    rcases hob with ⟨rfl, rfl, rfl⟩ | ⟨b, rfl, hh, hsz, hnc⟩
    · refine ⟨none, 0, w, ?_, by omega, by simp [maxLen], rfl, rfl, rfl, Nat.le_refl _, .inl ⟨rfl, rfl, by omega, rfl, rfl⟩⟩
      simp [Builtin.append_, run_underlying ht, run_underlying hut, sizeOf, typeInfo, hi, hs1, Builtin.lenOf, hm, hf]
    · have hr := run_append_room_string (P := P) w t u ty e i ht hut hi hs1 b n cap us hh s (by omega) (by omega)
      have hub : b < w.heap.size := (Array.getElem?_eq_some_iff.1 hh).1
      refine ⟨some b, cap, _, hr, by omega, hcm, rfl, rfl, rfl, by simp, .inr ⟨b, _, rfl, setRow_heap w b us _ e (0, 0) hh, ?_, by simpa using hub, fun j hj => ?_, fun j hj => by omega, .inl ⟨rfl, fun k hk => setRow_other w b k _ hk⟩⟩⟩
      · simp only [List.size_toArray, List.length_append, List.length_take, List.length_drop, Array.length_toList]; omega
      · simp only [List.getElem?_toArray]
        rw [List.append_assoc, List.getElem?_append_left (by simp; omega), List.getElem?_take, if_pos (by omega)]; simp
  · rcases hob with ⟨rfl, rfl, rfl⟩ | ⟨b, rfl, hh, hsz, hnc⟩
    · have hr := run_append_nil_string (P := P) w t u ty e i (.int .u8 0) ht hut hi hz s (by omega) (by omega) (by rw [hby]; omega)
      have e1 : (s.data.map fun b => Value.int .u8 b.toNat) = (strCells s).toArray := by
        apply Array.ext'; simp [strCells]
      rw [e1] at hr
      have hge := grownCap_ge w s.size 0 e
      refine ⟨some w.heap.size, grownCap w s.size 0 e, w.drew.alloc (.cells ((strCells s).toArray ++ Builtin.zeroCells (Value.int .u8 0).cells (grownCap w s.size 0 e - s.size)) e), by simpa using hr, by omega, grownCap_le_maxLen w s.size 0 e (by omega), rfl, rfl, rfl, by simp, .inr ⟨w.heap.size, _, rfl, _root_.Go.heap_alloc_new w.drew _, ?_, by simp, fun j hj => by omega, fun j hj => ?_, .inr ⟨Nat.le_refl _, fun k hk => Below.heap_alloc w.drew _ k hk⟩⟩⟩
      · simp only [Array.size_append, List.size_toArray, size_zeroCells, hzs, hnl]; omega
      · rw [Array.getElem?_append_left (by simp; omega)]
        simp
    · by_cases hroom : n + s.size ≤ cap
      · have hr := run_append_room_string (P := P) w t u ty e i ht hut hi hs1 b n cap us hh s hroom (by omega)
        have hub : b < w.heap.size := (Array.getElem?_eq_some_iff.1 hh).1
        refine ⟨some b, cap, _, hr, hroom, hcm, rfl, rfl, rfl, by simp, .inr ⟨b, _, rfl, setRow_heap w b us _ e (0, 0) hh, ?_, by simpa using hub, fun j hj => ?_, fun j hj => ?_, .inl ⟨rfl, fun k hk => setRow_other w b k _ hk⟩⟩⟩
        · simp only [List.size_toArray, List.length_append, List.length_take, List.length_drop, Array.length_toList]; omega
        · simp only [List.getElem?_toArray]
          rw [List.append_assoc, List.getElem?_append_left (by simp; omega), List.getElem?_take, if_pos (by omega)]; simp
        · simp only [List.getElem?_toArray]
          have e1 : (us.toList.take n).length = n := by rw [List.length_take, Array.length_toList]; omega
          rw [List.append_assoc, Nat.mul_one, List.getElem?_append_right (by omega), e1, Nat.add_sub_cancel_left, List.getElem?_append_left (by omega)]
      · have holds : ∀ j v, (us.toList.take n)[j]? = some v → w.cell? ((⟨b, 0, none⟩ : Addr).add j) = some v := by
          intro j v hj
          rw [List.getElem?_take] at hj
          split at hj
          · rw [Addr.add_lit, Nat.zero_add, cell_of_row w b j us e (0, 0) hh]; simpa using hj
          · cases hj
        have hr := run_append_grow_string (P := P) w t u ty e i (.int .u8 0) ht hut hi hz ⟨b, 0, none⟩ n cap (us.toList.take n) (by rw [hs1, List.length_take, Array.length_toList]; omega) holds s (by omega) (by omega) (growslice_fits (by omega) (by rw [hby]; omega))
        have hge := grownCap_ge w (n + s.size) cap e
        have e1 : (us.toList.take n).length = n := by rw [List.length_take, Array.length_toList]; omega
        refine ⟨some w.heap.size, grownCap w (n + s.size) cap e, _, hr, hge, grownCap_le_maxLen w (n + s.size) cap e h63, rfl, rfl, rfl, by simp, .inr ⟨w.heap.size, _, rfl, _root_.Go.heap_alloc_new w.drew _, ?_, by simp, fun j hj => ?_, fun j hj => ?_, .inr ⟨Nat.le_refl _, fun k hk => Below.heap_alloc w.drew _ k hk⟩⟩⟩
        · simp only [Array.size_append, List.size_toArray, size_zeroCells, hzs, hnl, e1]; omega
        · rw [Array.append_assoc, Array.getElem?_append_left (by simp; omega)]
          have hj' : j < n := by omega
          simp [hj']
        · rw [Array.append_assoc, Nat.mul_one, Array.getElem?_append_right (by simp; omega)]
          rw [List.size_toArray, e1, Nat.add_sub_cancel_left, Array.getElem?_append_left (by simp; omega)]
          simp

/-- bytes, as a row's elements -/
def bys (l : List UInt8) : List D := l.map fun b => .val (.int .u8 b.toNat)
theorem bys_flats (l : List UInt8) : flats (bys l) = bys l := by
  induction l with
  | nil => rfl
  | cons c l ih => simp only [bys, List.map_cons, flats, List.flatMap_cons, D.flat] at ih ⊢; rw [ih]; rfl
theorem bys_len (l : List UInt8) : (bys l).length = l.length := by simp [bys]
theorem bys_app (a b : List UInt8) : bys a ++ bys b = bys (a ++ b) := by simp [bys]
theorem bys_sz (l : List UInt8) : ∀ d ∈ bys l, d.flat.length = 1 := fun d hd => by obtain ⟨b, _, rfl⟩ := List.mem_map.1 hd; rfl

/-- what a type of bytes is -/
def byteTy (P : Program) (e : TypeId) : Bool :=
  match P.info? e with
  | some i => (match i.zero with | some (.int .u8 0) => true | _ => false) && Nat.beq i.size 1 && Nat.beq i.bytes 1
  | none => false
theorem byteTy_some {P : Program} {e : TypeId} (h : byteTy P e = true) : ∃ i, P.info? e = some i ∧ i.zero = some (.int .u8 0) ∧ i.size = 1 ∧ i.bytes = 1 := by
  unfold byteTy at h
  split at h
  · rename_i i hi
    simp only [Bool.and_eq_true] at h
    obtain ⟨⟨h1, h2⟩, h3⟩ := h
    split at h1
    · rename_i hz
      exact ⟨i, hi, hz, Nat.eq_of_beq_eq_true h2, Nat.eq_of_beq_eq_true h3⟩
    · cases h1
  · cases h

section
variable {C : Ctx} {ops : Array Oper} {rest : List Oper} {K : Sl → List Ob → Prop} {σ : Sl} {η : List Ob} {d : Nat} {ty : TypeId} {pos : String} {after : Array Edge} {gd : Option (Nat × Bool)} {t u : TypeId} {x y : Operand}
/-- append(b, s...) -/
theorem aAppS {id n e : Nat} {mu : Bool} {l m : List UInt8} (hx : oval σ x = .buf id n) (ho : η[id]? = some (.buf mu e 1 (bys l))) (hn : n = l.length) (hy : oval σ y = .d (str m)) (ht : C.P.underlying t = some (.slice e)) (hu : C.P.underlying u = some .string) (he : byteTy C.P e = true)
    (hd : Nat.blt d C.N = true) (hro : Nat.ble C.ro id = true) (hlen : l.length + m.length ≤ 140737488355328)
    (h : alex C false ops rest K ((d, .buf id (l ++ m).length) :: killσ id σ) ((killη id η).set id (.buf mu e 1 (bys (l ++ m))))) :
    astep C false ops ⟨some d, .call ⟨.builtin .append, #[x, y], #[t, u]⟩, ty, pos, after, gd⟩ rest K σ η := by
  subst hn
  obtain ⟨i, hi, hz, hs1, hby⟩ := byteTy_some he
  refine aAppG (ys := bys m) hx ho (by rw [bys_len]; exact Nat.le_refl _) (fun _ => (bys_len l).symm) (bys_sz m) hd hro (fun g a w us ha hcm hus => ?_) (by
    have e1 : (bys l).take l.length = bys l := List.take_of_length_le (by rw [bys_len]; exact Nat.le_refl _)
    rw [e1, bys_app, bys_len, ← List.length_append]; exact h)
  have hyr := ha.eval y; rw [hy] at hyr
  have hyv := RepD.val_eq hyr
  have hr := run_append_str (P := C.P) w t u ty e i ht hu hi hz hs1 hby (g.blk id) l.length (g.cap id) us hus ⟨m.toArray⟩ (by rw [str_size]; exact hlen) hcm
  rw [str_size] at hr
  refine ⟨strCells ⟨m.toArray⟩, by rw [strCells_length, str_size, bys_len, Nat.mul_one], strCells_oneCell _, fun j v dd hv hd => ?_, by rw [hyv, bys_len]; exact hr⟩
  rw [bys_flats] at hd
  simp only [strCells, bys, List.getElem?_map] at hv hd
  cases hm : m[j]? with
  | none => simp [hm] at hv
  | some c => simp [hm] at hv hd; subst hv; subst hd; exact .val _

/-! ### a row of bytes as a text -/
/-- unsafe.SliceData -/
theorem aSliceData {id n e : Nat} {l : List UInt8} {te : TypeId} (hx : oval σ x = .buf id n) (ho : η[id]? = some (.buf true e 1 (bys l))) (hn : n = l.length) (hp : C.P.underlying ty = some (.pointer te)) (hd : Nat.blt d C.N = true)
    (h1 : 0 < l.length → alex C false ops rest K ((d, .bptr id 0 0) :: σ) η) (h0 : l.length = 0 → ∀ p, alex C false ops rest K ((d, .d (.val (.pointer p))) :: σ) η) :
    astep C false ops ⟨some d, .call ⟨.builtin .unsafeSliceData, #[x], #[t]⟩, ty, pos, after, gd⟩ rest K σ η := by
  subst hn
  intro Q hQ a w ⟨g, ha⟩ K' hK'
  have hxr := ha.eval x; rw [hx] at hxr
  obtain ⟨hidn, hxv⟩ := hxr
  obtain ⟨o1, o2, o3, o4, o5⟩ := ha.inv.ob id _ ho
  rw [bys_len] at o4
  have fin : ∀ (v : Value) (w' : World) (s : SV), (Builtin.unsafeSliceData_ #[t] ty #[a.eval x]).run C.P w = .ok v w' → Abs C ((d, s) :: σ) η (a.put (some d) v) w' → alex C false ops rest K ((d, s) :: σ) η →
      (⟨some d, .call ⟨.builtin .unsafeSliceData, #[x], #[t]⟩, ty, pos, after, gd⟩ : Oper).wp C.P a w K' Q := by
    intro v w' s hr hab hal
    unfold Oper.wp
    have : (execOp a.eval ⟨some d, .call ⟨.builtin .unsafeSliceData, #[x], #[t]⟩, ty, pos, after, gd⟩).run C.P w = .ok (.value v) w' := by
      simp only [execOp, resolve, invoke, builtin, Sem.run_bind, Sem.run_pure, Result.andThen_ok, List.map_toArray, List.map_cons, List.map_nil, hr]
    rw [this]
    exact hK' _ _ (hal Q hQ _ _ hab)
  rcases o5 with ⟨hb, hc⟩ | ⟨b, us, hb, hh, hsz, _, _, _⟩
  · have hl : l.length = 0 := by omega
    rw [hb] at hxv
    refine fin (.pointer none) w (.d (.val (.pointer none))) (by rw [hxv]; exact run_unsafeSliceData_nil w _ _ _ _) ⟨g, ha.put (d := some d) hd (.val _)⟩ (h0 hl none)
  · rw [hb] at hxv
    by_cases hcap : g.cap id = 0
    · have hl : l.length = 0 := by omega
      rw [hcap, hl] at hxv
      have hsh : w.shape? b = some (e, us.size) := by unfold World.shape?; rw [hh]
      have hr := run_unsafeSliceData_zero (P := C.P) w #[t] ty te hp ⟨b, 0, none⟩ 0 (e, us.size) hsh
      have hgr : Grow g w g (w.alloc (.view ⟨b, 0, none⟩ te)) := ⟨rfl, rfl, rfl, rfl, rfl, rfl, rfl, by simp, fun k hk => Below.heap_alloc w _ k hk, fun _ _ h => h, fun _ _ h => .inl h, fun b o hb => Nat.lt_of_lt_of_le (ha.inv.st b o hb) (by simp)⟩
      exact fin (.pointer (some ⟨w.heap.size, 0, none⟩)) _ (.d (.val (.pointer (some ⟨w.heap.size, 0, none⟩)))) (by rw [hxv]; exact hr) ⟨g, (ha.grow hgr).put (d := some d) hd (.val _)⟩ (h0 hl _)
    · have hr := run_unsafeSliceData_row (P := C.P) w #[t] ty ⟨b, 0, none⟩ l.length (g.cap id) hcap
      rcases Nat.eq_zero_or_pos l.length with hl | hl
      · exact fin (.pointer (some ⟨b, 0, none⟩)) w (.d (.val (.pointer (some ⟨b, 0, none⟩)))) (by rw [hxv]; exact hr) ⟨g, ha.put (d := some d) hd (.val _)⟩ (h0 hl _)
      · refine fin (.pointer (some ⟨b, 0, none⟩)) w (.bptr id 0 0) (by rw [hxv]; exact hr) ⟨g, ha.put (d := some d) hd ⟨hidn, b, hb, by simp⟩⟩ (h1 hl)

theorem freeze_heap (w : World) (b n k : Nat) (hk : k ≠ b) : (w.freeze ⟨b, 0, none⟩ n).heap[k]? = w.heap[k]? := by
  unfold World.freeze
  split
  · rfl
  · simp only [Array.getElem?_modify]; rw [if_neg (by omega)]
theorem freeze_size (w : World) (a : Addr) (n : Nat) : (w.freeze a n).heap.size = w.heap.size := by
  unfold World.freeze; split <;> simp
theorem freeze_os (w : World) (a : Addr) (n : Nat) : (w.freeze a n).os = w.os ∧ (w.freeze a n).tape = w.tape ∧ (w.freeze a n).output = w.output := by
  unfold World.freeze; split <;> exact ⟨rfl, rfl, rfl⟩

/-- an object is let go, and what lay in it may have turned -/
theorem AbsG.goneOb {g : Gh} {a : Act} {w w' : World} (ha : AbsG C g σ η a w) {id b : Nat} (hid : id < η.length) (hb : g.blk id = some b) (hro : C.ro ≤ id) (hst : ∀ o, ¬ g.St b o)
    (os : w'.os = w.os) (tape : w'.tape = w.tape) (output : w'.output = w.output) (size : w'.heap.size = w.heap.size) (heap : ∀ k, k ≠ b → w'.heap[k]? = w.heap[k]?) : AbsG C g σ (η.set id .gone) a w' := by
  have kp : Keep g.St w g.St w' := ⟨fun _ _ h => h, fun c o u hc hu => (World.cell?_of_block (a := ⟨c, o, none⟩) (heap c (fun e => hst o (e ▸ hc)))).trans hu, fun c hc => heap c (fun e => hst 0 (e ▸ hc 0))⟩
  refine ⟨ha.defers, ha.size, ⟨by rw [List.length_set]; exact ha.inv.n, fun i c hc => by rw [size]; exact ha.inv.lt i c hc, ha.inv.dead, ha.inv.inj, fun i o ho => ?_, fun c o hc => by rw [size]; exact ha.inv.st c o hc, ha.inv.gl.keep kp⟩, os.trans ha.os, tape.trans ha.tape, output.trans ha.output, by rw [size]; exact ha.wsize,
    fun k hk hx => ?_, ha.keep.trans kp, ha.new, ha.own, fun t => (ha.rep t).ext kp (fun _ _ => ⟨rfl, rfl, rfl⟩) (Nat.le_refl _)⟩
  · rw [List.getElem?_set] at ho
    split at ho
    · rename_i e; subst e
      try rw [if_pos hid] at ho
      injection ho with ho; subst ho; trivial
    · rename_i e
      exact (ha.inv.ob i o ho).ext kp (fun _ _ => ⟨rfl, rfl, rfl⟩) (Nat.le_refl _) (by rw [ha.inv.n]; exact (List.getElem?_eq_some_iff.1 ho).1) (fun c hc => ⟨heap c (fun h => e (ha.inv.inj id i b hb (h ▸ hc))), fun _ => Iff.rfl⟩)
  · rw [heap k (fun e => ?_)]
    · exact ha.heap k hk hx
    · subst e
      rcases ha.own id k hb hro with h2 | h2
      · omega
      · exact hx h2

/-- unsafe.String of a row of the call's own, which nobody writes any more -/
theorem aUStr {id e : Nat} {l : List UInt8} {pt it te : TypeId} (hx : oval σ x = .bptr id 0 0) (hy : oval σ y = .d (.val (.int .i64 (l.length : Int)))) (ho : η[id]? = some (.buf true e 1 (bys l))) (h0 : 0 < l.length) (hp : C.P.underlying pt = some (.pointer e)) (hc : C.P.cellsOf e = 1) (hd : Nat.blt d C.N = true) (hro : Nat.ble C.ro id = true)
    (h : alex C false ops rest K ((d, .d (str l)) :: σ) (η.set id .gone)) :
    astep C false ops ⟨some d, .call ⟨.builtin .unsafeString, #[x, y], #[pt, it]⟩, te, pos, after, gd⟩ rest K σ η := by
  refine estep (fun g a w ha => ?_) h
  have hxr := ha.eval x; rw [hx] at hxr
  obtain ⟨hidn, b, hb, hxv⟩ := hxr
  have hyv := RepD.val_eq (by have := ha.eval y; rw [hy] at this; exact this)
  obtain ⟨o1, o2, o3, o4, o5⟩ := ha.inv.ob id _ ho
  rcases o5 with ⟨q, _⟩ | ⟨b', us, q1, hh, hsz, _, hrep, hst⟩
  · rw [hb] at q; cases q
  · rw [hb] at q1; injection q1 with q1; subst q1
    rw [bys_len] at o4
    have hsh : w.shape? b = some (e, us.size) := by unfold World.shape?; rw [hh]
    have hcell : ∀ j x, l[j]? = some x → w.cell? ((⟨b, 0, none⟩ : Addr).add j) = some (.int .u8 x.toNat) := by
      intro j c hj
      have hjl := (List.getElem?_eq_some_iff.1 hj).1
      rw [Addr.add_lit, Nat.zero_add, cell_of_row w b j us e (0, 0) hh]
      have hu : us[j]? = some (us[j]'(by omega)) := Array.getElem?_eq_getElem (by omega)
      have := hrep j _ (.val (.int .u8 c.toNat)) hu (by rw [bys_flats, bys, List.getElem?_map, hj]; rfl)
      rw [hu, RepD.val_eq this]
    have hm : l.length ≤ 9223372036854775807 := by simp only [maxLen] at o3; omega
    have hr := run_unsafeString_row (P := C.P) w pt it te e hp hc b us.size hsh l (by intro hn; rw [hn] at h0; simp at h0) (by omega) hm hcell
    have hxv' : a.eval x = .pointer (some ⟨b, 0, none⟩) := by rw [hxv]; simp
    have hf := freeze_os w ⟨b, 0, none⟩ l.length
    refine ⟨.string ⟨l.toArray⟩, w.freeze ⟨b, 0, none⟩ l.length, ?_, g, (ha.goneOb (List.getElem?_eq_some_iff.1 ho).1 hb (Nat.le_of_ble_eq_true hro) (fun o hso => by have := (hst o).1 hso; cases this.1) hf.1 hf.2.1 hf.2.2 (freeze_size _ _ _) (fun k hk => freeze_heap w b _ k hk)).put (d := some d) hd (.val _)⟩
    simp only [execOp, resolve, invoke, builtin, Sem.run_bind, Sem.run_pure, Result.andThen_ok, List.map_toArray, List.map_cons, List.map_nil, hxv', hyv, hr]
end

section
variable {P : Program} {η : List Ob} {σ : Sl} {dst : Option Nat} {ty : TypeId} {pos : String} {after : Array Edge} {gd : Option (Nat × Bool)} {t yt : TypeId} {x y : Operand}
theorem Y_ustr0 {p : Option Addr} {ts : TypeId × TypeId} (hx : oval σ x = .d (.val (.pointer p))) (hy : oval σ y = .d (.val (.int .i64 0))) : Ylds P η σ ⟨dst, .call ⟨.builtin .unsafeString, #[x, y], #[ts.1, ts.2]⟩, ty, pos, after, gd⟩ (.d (str [])) := by
  refine Ylds.same fun g w a hi h => ⟨.string .empty, ?_, .val _⟩
  have h1 := h x (by simp [Op.operands, Call.operands]); rw [hx] at h1
  have h2 := h y (by simp [Op.operands, Call.operands]); rw [hy] at h2
  simp only [execOp, resolve, invoke, builtin, Sem.run_bind, Sem.run_pure, Result.andThen_ok, List.map_toArray, List.map_cons, List.map_nil, RepD.val_eq h1, RepD.val_eq h2, run_unsafeString_none]

/-! ### float64, complex128 -/
abbrev fl (n : Nat) : D := .val (.float .f64 (Fl.Fd n))
abbrev cx (a b : Nat) : D := .val (.complex .f64 (Fl.Fd a) (Fl.Fd b))
theorem Y_i2f {k : IntKind} {n : Nat} {src tdst : TypeId} (hx : oval σ x = .d (.val (.int k (n : Int)))) (hs : (P.underlying src).isSome = true) (hd : P.underlying tdst = some (.float .f64)) : Ylds P η σ ⟨dst, .convert src tdst x, ty, pos, after, gd⟩ (.d (fl n)) := by
  obtain ⟨ds, hs⟩ := Option.isSome_iff_exists.1 hs
  refine Ylds.same fun g w a hi h => ⟨.float .f64 (Fl.Fd n), ?_, .val _⟩
  have h1 := h x (by simp [Op.operands]); rw [hx] at h1
  have e : FloatKind.f64.nearest (n : Int) = Fl.Fd n := by
    have : decide ((n : Int) < 0) = false := decide_eq_false (by omega)
    show Ieee.double.write (.number (decide ((n : Int) < 0)) _ 0) = _
    rw [this]; rfl
  simp only [execOp, convert, RepD.val_eq h1, Sem.run_bind, run_underlying hs, run_underlying hd, Result.andThen_ok]
  cases ds <;> simp [Conv.intToFloat, e]
theorem Y_fadd {a b : Nat} (hx : oval σ x = .d (fl a)) (hy : oval σ y = .d (fl b)) (h : a + b < 2 ^ 53) : Ylds P η σ ⟨dst, .binOp .add t x y yt, ty, pos, after, gd⟩ (.d (fl (a + b))) :=
  Y_bin hx hy fun w => by
    have := run_float_arith (P := P) w .add t .f64 (Fl.Fd a) (Fl.Fd b) (Fl.Fd (a + b)) (Fl.add_Fd a b h)
    simp [eqGuard_add, this]
theorem Y_fleq {a b : Nat} (hx : oval σ x = .d (fl a)) (hy : oval σ y = .d (fl b)) (ha : a < 2 ^ 53) (hb : b < 2 ^ 53) : Ylds P η σ ⟨dst, .binOp .leq t x y yt, ty, pos, after, gd⟩ (.d (.val (.bool (decide (a ≤ b))))) :=
  Y_bin hx hy fun w => by
    have e : FloatKind.f64.format.order (Fl.Fd a) (Fl.Fd b) = some (compare (a : Int) (b : Int)) := Fl.order_Fd a b ha hb
    have e2 : (compare (a : Int) (b : Int) == Ordering.lt || compare (a : Int) (b : Int) == Ordering.eq) = decide (a ≤ b) := by
      rw [Int.compare_eq_ite_lt]
      by_cases h1 : a < b
      · have : (a : Int) < b := by omega
        rw [if_pos this, decide_eq_true (show a ≤ b by omega)]; rfl
      · have h2 : ¬ (a : Int) < b := by omega
        rw [if_neg h2]
        by_cases h3 : b < a
        · have : (b : Int) < a := by omega
          rw [if_pos this, decide_eq_false (show ¬ a ≤ b by omega)]; rfl
        · have : ¬ (b : Int) < a := by omega
          rw [if_neg this, decide_eq_true (show a ≤ b by omega)]; rfl
    simp [eqGuard, binOp, Op.floatCmp, e, e2]
theorem Y_complex {a b : Nat} {ts : Array TypeId} (hx : oval σ x = .d (fl a)) (hy : oval σ y = .d (fl b)) : Ylds P η σ ⟨dst, .call ⟨.builtin .complex, #[x, y], ts⟩, ty, pos, after, gd⟩ (.d (cx a b)) := by
  refine Ylds.same fun g w ac hi h => ⟨.complex .f64 (Fl.Fd a) (Fl.Fd b), ?_, .val _⟩
  have h1 := h x (by simp [Op.operands, Call.operands]); rw [hx] at h1
  have h2 := h y (by simp [Op.operands, Call.operands]); rw [hy] at h2
  have e : Builtin.complex_ ts ty #[.float .f64 (Fl.Fd a), .float .f64 (Fl.Fd b)] = pure (.complex .f64 (Fl.Fd a) (Fl.Fd b)) := rfl
  simp only [execOp, resolve, invoke, builtin, Sem.run_bind, Sem.run_pure, Result.andThen_ok, List.map_toArray, List.map_cons, List.map_nil, RepD.val_eq h1, RepD.val_eq h2, e]
theorem Y_real {a b : Nat} {ts : Array TypeId} (hx : oval σ x = .d (cx a b)) : Ylds P η σ ⟨dst, .call ⟨.builtin .real, #[x], ts⟩, ty, pos, after, gd⟩ (.d (fl a)) := by
  refine Ylds.same fun g w ac hi h => ⟨.float .f64 (Fl.Fd a), ?_, .val _⟩
  have h1 := h x (by simp [Op.operands, Call.operands]); rw [hx] at h1
  have e : Builtin.real_ ts ty #[.complex .f64 (Fl.Fd a) (Fl.Fd b)] = pure (.float .f64 (Fl.Fd a)) := rfl
  simp only [execOp, resolve, invoke, builtin, Sem.run_bind, Sem.run_pure, Result.andThen_ok, List.map_toArray, List.map_cons, List.map_nil, RepD.val_eq h1, e]
theorem Y_imag {a b : Nat} {ts : Array TypeId} (hx : oval σ x = .d (cx a b)) : Ylds P η σ ⟨dst, .call ⟨.builtin .imag, #[x], ts⟩, ty, pos, after, gd⟩ (.d (fl b)) := by
  refine Ylds.same fun g w ac hi h => ⟨.float .f64 (Fl.Fd b), ?_, .val _⟩
  have h1 := h x (by simp [Op.operands, Call.operands]); rw [hx] at h1
  have e : Builtin.imag_ ts ty #[.complex .f64 (Fl.Fd a) (Fl.Fd b)] = pure (.float .f64 (Fl.Fd b)) := rfl
  simp only [execOp, resolve, invoke, builtin, Sem.run_bind, Sem.run_pure, Result.andThen_ok, List.map_toArray, List.map_cons, List.map_nil, RepD.val_eq h1, e]
theorem Y_cadd {a b c d : Nat} (hx : oval σ x = .d (cx a b)) (hy : oval σ y = .d (cx c d)) (h1 : a + c < 2 ^ 53) (h2 : b + d < 2 ^ 53) : Ylds P η σ ⟨dst, .binOp .add t x y yt, ty, pos, after, gd⟩ (.d (cx (a + c) (b + d))) :=
  Y_bin hx hy fun w => by
    have e1 : FloatKind.f64.format.add (Fl.Fd a) (Fl.Fd c) = some (Fl.Fd (a + c)) := Fl.add_Fd a c h1
    have e2 : FloatKind.f64.format.add (Fl.Fd b) (Fl.Fd d) = some (Fl.Fd (b + d)) := Fl.add_Fd b d h2
    simp [eqGuard_add, binOp, Op.complexOp, Op.Complex.arith, Op.floatArith, e1, e2]
end
end Go.Sx
/- The engine: pointers compared, checked, made unsafe and back; calls of function values. -/
namespace Go.Sx
open Go.RowKit Go.Lib

section
variable {P : Program} {η : List Ob} {σ : Sl} {dst : Option Nat} {ty : TypeId} {pos : String} {after : Array Edge} {gd : Option (Nat × Bool)} {t yt : TypeId} {x y : Operand}
theorem Y_nilc_p {id o : Nat} (hx : oval σ x = .ptr id o) : Ylds P η σ ⟨dst, .nilCheck x, ty, pos, after, gd⟩ (.ptr id o) := by
  refine Ylds.same fun g w a hi h => ⟨a.eval x, ?_, ?_⟩
  · have h1 := h x (by simp [Op.operands]); rw [hx] at h1
    obtain ⟨_, b, _, hv⟩ := h1
    simp [execOp, hv]
  · have h1 := h x (by simp [Op.operands]); rw [hx] at h1; exact h1
theorem Y_eqnil_p {id o : Nat} (hx : oval σ x = .ptr id o) (hy : oval σ y = .d (.val (.pointer none))) (hu : P.underlying t = some (.pointer (P.pointee t))) : Ylds P η σ ⟨dst, .binOp .eql t x y yt, ty, pos, after, gd⟩ (.d (.val (.bool false))) := by
  refine Ylds.same fun g w a hi h => ⟨.bool false, ?_, .val _⟩
  have h1 := h x (by simp [Op.operands]); rw [hx] at h1
  have h2 := h y (by simp [Op.operands]); rw [hy] at h2
  obtain ⟨_, b, _, hv⟩ := h1
  have := run_eql_pointer_nil (P := P) w t (some ⟨b, o, none⟩) hu
  simp only [execOp, hv, RepD.val_eq h2, eqGuard_at_pointer, Sem.run_bind, Sem.run_pure, Result.andThen_ok, this]
  rfl
theorem Y_eqnil_n (hx : oval σ x = .d (.val (.pointer none))) (hy : oval σ y = .d (.val (.pointer none))) (hu : P.underlying t = some (.pointer (P.pointee t))) : Ylds P η σ ⟨dst, .binOp .eql t x y yt, ty, pos, after, gd⟩ (.d (.val (.bool true))) := by
  refine Ylds.same fun g w a hi h => ⟨.bool true, ?_, .val _⟩
  have h1 := h x (by simp [Op.operands]); rw [hx] at h1
  have h2 := h y (by simp [Op.operands]); rw [hy] at h2
  have := run_eql_pointer_nil (P := P) w t none hu
  simp only [execOp, RepD.val_eq h1, RepD.val_eq h2, eqGuard_at_pointer, Sem.run_bind, Sem.run_pure, Result.andThen_ok, this]
  rfl
theorem Y_neqpp {id o e : Nat} (hx : oval σ x = .ptr id o) (hy : oval σ y = .ptr id o) (hu : P.underlying t = some (.pointer e)) (hs : (P.info? e).isSome = true) : Ylds P η σ ⟨dst, .binOp .neq t x y yt, ty, pos, after, gd⟩ (.d (.val (.bool false))) := by
  obtain ⟨j, hj⟩ := Option.isSome_iff_exists.1 hs
  refine Ylds.same fun g w a hi h => ⟨.bool false, ?_, .val _⟩
  have h1 := h x (by simp [Op.operands]); rw [hx] at h1
  have h2 := h y (by simp [Op.operands]); rw [hy] at h2
  obtain ⟨_, b, hb, hv⟩ := h1
  obtain ⟨_, b2, hb2, hv2⟩ := h2
  rw [hb] at hb2; injection hb2 with hb2; subst hb2
  have := run_neq_ptr_same (P := P) w ⟨b, o, none⟩ hu hj
  simp only [execOp, hv, hv2, eqGuard_at_pointer, Sem.run_bind, Sem.run_pure, Result.andThen_ok, this]

/-- *T to unsafe.Pointer: the address of a box of the call's own -/
theorem Y_tounsafe {id e : Nat} {k : Option Nat} {et : Option TypeId} {cs : List SV} {src tdst : TypeId} (hx : oval σ x = .ptr id 0) (ho : η[id]? = some (.bx k et cs)) (hc : Nat.blt 0 cs.length = true) (hs : P.underlying src = some (.pointer e)) (hd : P.underlying tdst = some .unsafePointer) (hsz : ((P.info? e).map fun i => Nat.blt 0 i.size) = some true) :
    Ylds P η σ ⟨dst, .convert src tdst x, ty, pos, after, gd⟩ (.ptr id 0) := by
  cases hj : P.info? e with
  | none => simp [hj] at hsz
  | some j =>
    simp [hj] at hsz
    have hc : 0 < cs.length := by simpa using hc
    refine Ylds.same fun g w a hi h => ?_
    have h1 := h x (by simp [Op.operands]); rw [hx] at h1
    obtain ⟨q1, b, hb, hv⟩ := h1
    obtain ⟨b', e', us, h2, h3, h4, _⟩ := hi.ob id _ ho
    rw [hb] at h2; injection h2 with h2; subst h2
    have hsh : w.shape? b = some (e', us.size) := by unfold World.shape?; rw [h3]
    have := run_to_unsafe (P := P) w (src := src) (dst := tdst) (cells := us.size) ⟨b, 0, none⟩ hs hd hj (by omega) hsh (by show 0 < us.size; omega)
    exact ⟨.pointer (some ⟨b, 0, none⟩), by simp only [execOp, hv, Sem.run_bind, this, Result.andThen_ok, Sem.run_pure], q1, b, hb, rfl⟩
/-- unsafe.Pointer to *U, where a variable laid out as U lies at the box's head -/
theorem Y_fromunsafe {id e u : Nat} {k : Option Nat} {cs : List SV} {src tdst : TypeId} (hx : oval σ x = .ptr id 0) (ho : η[id]? = some (.bx k (some e) cs)) (hs : P.underlying src = some .unsafePointer) (hd : P.underlying tdst = some (.pointer u)) (hu : (P.info? u).isSome = true) (hl : liesAt P P.depth e (cs.length / P.cellsOf e) 0 u 1 = true) :
    Ylds P η σ ⟨dst, .convert src tdst x, ty, pos, after, gd⟩ (.ptr id 0) := by
  obtain ⟨j, hj⟩ := Option.isSome_iff_exists.1 hu
  refine Ylds.same fun g w a hi h => ?_
  have h1 := h x (by simp [Op.operands]); rw [hx] at h1
  obtain ⟨q1, b, hb, hv⟩ := h1
  obtain ⟨b', e', us, h2, h3, h4, _, _, _, h8⟩ := hi.ob id _ ho
  rw [hb] at h2; injection h2 with h2; subst h2
  have he := h8.2 e rfl
  subst he
  have hsh : w.shape? b = some (e, us.size) := by unfold World.shape?; rw [h3]
  have := run_from_unsafe (P := P) w (src := src) (dst := tdst) ⟨b, 0, none⟩ hs hd hj hsh (by rw [h4]; exact hl)
  exact ⟨.pointer (some ⟨b, 0, none⟩), by simp only [execOp, hv, Sem.run_bind, this, Result.andThen_ok, Sem.run_pure], q1, b, hb, rfl⟩
/-- is f abi.NoEscape, which has no body and hands back what it is given? -/
def noEsc (P : Program) (f : FuncId) : Prop := ∃ fn, P.funcs[f]? = some fn ∧ (fn.name == "runtime.NumGoroutine") = false ∧ fn.body.isNone = true ∧ Extern.findNext fn = none ∧ Extern.find fn = some Extern.AbiNoEscape.same
theorem Y_noesc {id o : Nat} {f : FuncId} {ts : Array TypeId} (hx : oval σ x = .ptr id o) (hf : noEsc P f) : Ylds P η σ ⟨dst, .call ⟨.value (.func f), #[x], ts⟩, ty, pos, after, gd⟩ (.ptr id o) := by
  obtain ⟨fn, f1, f2, f3, f4, f5⟩ := hf
  refine Ylds.same fun g w a hi h => ⟨a.eval x, ?_, ?_⟩
  · have := run_callFunc_extern (P := P) f1 f2 f3 f4 f5 #[a.eval x] w
    rw [run_noEscape] at this
    simp only [execOp, resolve, Act.eval, Deferred.ofValue, invoke, Sem.run_bind, Sem.run_pure, Result.andThen_ok, List.map_toArray, List.map_cons, List.map_nil, Array.empty_append, Array.append_empty]
    exact this
  · have h1 := h x (by simp [Op.operands, Call.operands]); rw [hx] at h1; exact h1

/-- a call of a function value that captures nothing -/
theorem Y_callv {f : FuncId} {args : List Operand} {ts : Array TypeId} {ds : List D} {res : D} (hx : oval σ x = .d (.val (.func (.func f) #[] #[]))) (hb : hasBody P f = true) (hc : PCall P f ds res) (ha : CoL η σ args ds) :
    Ylds P η σ ⟨dst, .call ⟨.value x, args.toArray, ts⟩, ty, pos, after, gd⟩ (.d res) := by
  intro g w a hi hop
  have hr := CoL.rep (a := a) hi args ds (fun y hm => hop y (by simp [Op.operands, Call.operands, hm])) ha
  have hxr := hop x (by simp [Op.operands, Call.operands]); rw [hx] at hxr
  have hv := RepD.val_eq hxr
  refine .inr ⟨f, (args.map a.eval).toArray, ?_, ?_⟩
  · simp only [execOp, resolve, hv, Deferred.ofValue, invoke, Sem.run_bind, Sem.run_pure, Result.andThen_ok, List.map_toArray, Array.empty_append, Array.append_empty]
    exact hasBody_run hb
  · refine (hc g.St w _ hi.st hi.gl hr).mono fun e w' ⟨v, St', he, hrep, hbel, hkeep, hnew, hlt⟩ => ?_
    exact ⟨v, { g with St := St' }, he, ⟨rfl, rfl, rfl, rfl, hbel.os, hbel.tape, hbel.output, hbel.size, hbel.block, hkeep.sub, hnew, hlt⟩, hrep⟩
/-- a function that captures nothing, as a value -/
theorem Co_fn {f : FuncId} : cst (.func (.func f) #[] #[]) = .d (.val (.func (.func f) #[] #[])) := rfl
end
end Go.Sx
/- The engine: functions that read objects of their caller; closures that write to them; a row that lies in a box. -/
namespace Go.Sx
open Go.RowKit Go.Lib

/-- What a call of f comes to, that reads objects pre and turns none. -/
def QCall (P : Program) (f : FuncId) (as : List SV) (pre : List Ob) (res : D) : Prop :=
  ∀ (g : Gh) (w : World) (vs : List Value), Inv g w pre → RepSs g w vs as →
    Calls P f vs.toArray w (fun e w' => ∃ v St', e = .returned v ∧ RepD St' w' v res ∧ Below w.heap.size w w' ∧ Keep g.St w St' w' ∧
      (∀ b o, St' b o → g.St b o ∨ w.heap.size ≤ b) ∧ (∀ b o, St' b o → b < w'.heap.size))

theorem qcall_of {P : Program} {f : FuncId} {fn : Func} {c : Code} {as : List SV} {pre : List Ob} {res : D} {N : Nat} {rs : Array ResultVar} (hf : P.funcs[f]? = some fn) (hb : fn.body = some c) (hN : fn.ntmps = N) (hrs : fn.results = rs) (hl : Nat.ble as.length N = true)
    (h : ∀ (w0 : World) (St0 : Stab), awp ⟨P, N, w0, St0, fun _ => False, pre.length⟩ c (rpost rs res) (sargs as 0) pre) : QCall P f as pre res := by
  intro g w vs hi hrep
  subst hN
  have hl := Nat.le_of_ble_eq_true hl
  have hlen := hrep.len
  refine calls_of_wp hf hb (h w g.St _ ?_ _ _ ?_)
  · intro e σ' η' a' w' hq ⟨g', ha⟩
    have fin : ResOk rs σ' η' res → a'.defers = [] ∧ ∃ v, (results fn a'.tmps).run P w' = .ok v w' ∧ ∃ v_1 St', Ending.returned v = .returned v_1 ∧ RepD St' w' v_1 res ∧ Below w.heap.size w w' ∧ Keep g.St w St' w' ∧
      (∀ b o, St' b o → g.St b o ∨ w.heap.size ≤ b) ∧ (∀ b o, St' b o → b < w'.heap.size) := by
      intro hq
      obtain ⟨v, hr, hd⟩ := hq.run (P := P) hrs ha
      refine ⟨ha.defers, v, hr, v, g'.St, rfl, hd, ⟨ha.os, ha.tape, ha.output, ha.wsize, fun k hk => ha.heap k hk (fun h => h)⟩, ha.keep, fun b o hb => ?_, ha.inv.st⟩
      rcases ha.new b o hb with h1 | h1 | h1
      · exact .inl h1
      · exact .inr h1
      · exact h1.elim
    cases e <;> first | exact fin hq | exact hq.elim
  · refine ⟨g, rfl, ?_, hi, rfl, rfl, rfl, Nat.le_refl _, fun _ _ _ => rfl, Keep.refl g.St w, fun _ _ h => .inl h, fun i b hb hr => ?_, ?_⟩
    · simp [hlen]; omega
    · exfalso
      have h1 : pre.length ≤ i := hr
      have h2 := hi.dead i (by rw [hi.n]; exact h1)
      rw [hb] at h2; cases h2
    · refine sargs_rep vs as 0 _ hrep fun j v hj => ?_
      have hjl : j < vs.length := (List.getElem?_eq_some_iff.1 hj).1
      simp only [Nat.zero_add, Array.getD_eq_getD_getElem?]
      rw [Array.getElem?_append_left (by simpa using hjl)]
      simp [hj]

/-! ### calls of what a slot, or a name, says -/
theorem SArgs.repO {g : Gh} {w : World} {a : Act} {σ : Sl} {ids : List Nat} : ∀ (xs : List Operand) (ss : List SV), (∀ x ∈ xs, RepS g w (a.eval x) (oval σ x)) → SArgs σ ids xs ss → xs.length = ss.length ∧ ∀ (j : Nat) v s, (xs.map a.eval)[j]? = some v → ss[j]? = some s → RepS g w v (s.ren ids)
  | [], [], _, _ => ⟨rfl, fun j v s h => by simp at h⟩
  | x :: xs, s :: ss, ho, ⟨h1, h2⟩ => by
    obtain ⟨e1, e2⟩ := SArgs.repO xs ss (fun y hy => ho y (by simp [hy])) h2
    refine ⟨by simp [e1], fun j v s' hv hs => ?_⟩
    match j with
    | 0 =>
      simp at hv hs; subst hv; subst hs
      have := ho x (by simp); rw [h1] at this; exact this
    | j + 1 => exact e2 j v s' (by simpa using hv) (by simpa using hs)
  | [], _ :: _, _, h => h.elim
  | _ :: _, [], _, h => h.elim

/-- what the callee is handed: its arguments, and what it has captured -/
theorem clo_args {g : Gh} {w : World} {a : Act} {σ : Sl} {ids cs cids : List Nat} {x : Operand} {f : FuncId} {args : List Operand} {as : List SV} (hx : oval σ x = .clo f cids) (hcs : cs.map (fun j => ids.getD j 0) = cids) (ho : RepS g w (a.eval x) (oval σ x)) (ha : ∀ y ∈ args, RepS g w (a.eval y) (oval σ y)) (hs : SArgs σ ids args as) :
    ∃ cv : List Value, a.eval x = .func (.func f) #[] cv.toArray ∧ (args.map a.eval ++ cv).length = (as ++ cs.map fun j => SV.ptr j 0).length ∧ ∀ (j : Nat) v s, (args.map a.eval ++ cv)[j]? = some v → (as ++ cs.map fun j => SV.ptr j 0)[j]? = some s → RepS g w v (s.ren ids) := by
  rw [hx] at ho
  obtain ⟨cv, h1, h2, h3⟩ := ho
  obtain ⟨e1, e2⟩ := SArgs.repO args as ha hs
  have hl : cs.length = cids.length := by rw [← hcs, List.length_map]
  refine ⟨cv, h1, by simp [e1, h2, hl], fun j v s hv hs => ?_⟩
  rcases Nat.lt_or_ge j args.length with hj | hj
  · rw [List.getElem?_append_left (by simpa using hj)] at hv
    rw [List.getElem?_append_left (by omega)] at hs
    exact e2 j v s hv hs
  · rw [List.getElem?_append_right (by simpa using hj)] at hv
    rw [List.getElem?_append_right (by omega)] at hs
    rw [List.length_map] at hv
    rw [List.getElem?_map] at hs
    rw [← e1] at hs
    cases hc : cs[j - args.length]? with
    | none => simp [hc] at hs
    | some c =>
      simp [hc] at hs; subst hs
      have hid : cids[j - args.length]? = some (ids.getD c 0) := by rw [← hcs, List.getElem?_map, hc]; rfl
      exact h3 (j - args.length) _ v hid hv

section
variable {P : Program} {η : List Ob} {σ : Sl} {dst : Option Nat} {ty : TypeId} {pos : String} {after : Array Edge} {gd : Option (Nat × Bool)} {t yt : TypeId} {x y : Operand}
theorem run_callv {f : FuncId} {a : Act} {cv : List Value} {args : List Operand} {ts : Array TypeId} {w : World} (hx : a.eval x = .func (.func f) #[] cv.toArray) (hb : hasBody P f = true) :
    (execOp a.eval ⟨dst, .call ⟨.value x, args.toArray, ts⟩, ty, pos, after, gd⟩).run P w = .ok (.enter f (args.map a.eval ++ cv).toArray) w := by
  simp only [execOp, resolve, hx, Deferred.ofValue, invoke, Sem.run_bind, Sem.run_pure, Result.andThen_ok, List.map_toArray, Array.empty_append]
  rw [List.append_toArray]
  exact hasBody_run hb
/-- a call of a function, or of a closure, that reads objects -/
theorem Y_qcall0 {f : FuncId} {args : List Operand} {ts : Array TypeId} {as : List SV} {pre : List Ob} {res : D} {cids : List Nat} (ids cs : List Nat) (hx : oval σ x = .clo f cids) (hcs : cs.map (fun j => ids.getD j 0) = cids) (hb : hasBody P f = true) (hc : QCall P f (as ++ cs.map fun j => SV.ptr j 0) pre res) (ha : SArgs σ ids args as) (hp : Picks η ids pre)
    (hn : ids.Nodup) (hlen : ids.length = pre.length) (hu : unlaid pre = true) (hbl : pre.all (Ob.below pre.length) = true) (hba : (as ++ cs.map fun j => SV.ptr j 0).all (SV.bel pre.length) = true) :
    Ylds P η σ ⟨dst, .call ⟨.value x, args.toArray, ts⟩, ty, pos, after, gd⟩ (.d res) := by
  intro g w a hi hop
  obtain ⟨cv, e1, e2, e3⟩ := clo_args (g := g) (w := w) (a := a) hx hcs (hop x (by simp [Op.operands, Call.operands])) (fun y hy => hop y (by simp [Op.operands, Call.operands, hy])) ha
  refine .inr ⟨f, _, run_callv e1 hb, ?_⟩
  have hr := RepSs.callee (g := g) (w := w) hlen _ _ e3 e2 hba
  refine (hc (calleeG g ids) w _ (hi.callee hn hlen hp hu hbl) hr).mono fun e w' ⟨v, St', he, hrep, hbel, hkeep, hnew, hlt⟩ => ?_
  exact ⟨v, { g with St := St' }, he, ⟨rfl, rfl, rfl, rfl, hbel.os, hbel.tape, hbel.output, hbel.size, hbel.block, hkeep.sub, hnew, hlt⟩, hrep⟩
theorem Y_qcall {f : FuncId} {args : List Operand} {ts : Array TypeId} {asx : List SV} {pre : List Ob} {res : D} {cids : List Nat} (ids cs : List Nat) (hx : oval σ x = .clo f cids) (hcs : cs.map (fun j => ids.getD j 0) = cids) (hb : hasBody P f = true) (hc : QCall P f asx pre res) (hsp : asx.drop args.length = cs.map fun j => SV.ptr j 0) (ha : SArgs σ ids args (asx.take args.length)) (hp : Picks η ids pre)
    (hn : ids.Nodup) (hlen : ids.length = pre.length) (hu : unlaid pre = true) (hbl : pre.all (Ob.below pre.length) = true) (hba : asx.all (SV.bel pre.length) = true) :
    Ylds P η σ ⟨dst, .call ⟨.value x, args.toArray, ts⟩, ty, pos, after, gd⟩ (.d res) := by
  have e : asx = asx.take args.length ++ cs.map fun j => SV.ptr j 0 := by rw [← hsp, List.take_append_drop]
  exact Y_qcall0 ids cs hx hcs hb (e ▸ hc) ha hp hn hlen hu hbl (e ▸ hba)
/-- a call of a function that a slot holds, and that captures nothing -/
theorem Y_pclo {f : FuncId} {args : List Operand} {ts : Array TypeId} {ds : List D} {res : D} (hx : oval σ x = .clo f []) (hb : hasBody P f = true) (hc : PCall P f ds res) (ha : CoL η σ args ds) :
    Ylds P η σ ⟨dst, .call ⟨.value x, args.toArray, ts⟩, ty, pos, after, gd⟩ (.d res) := by
  intro g w a hi hop
  have hr := CoL.rep (a := a) hi args ds (fun y hm => hop y (by simp [Op.operands, Call.operands, hm])) ha
  have hxr := hop x (by simp [Op.operands, Call.operands]); rw [hx] at hxr
  obtain ⟨cv, h1, h2, _⟩ := hxr
  have : cv = [] := List.eq_nil_of_length_eq_zero h2
  subst this
  refine .inr ⟨f, _, run_callv h1 hb, ?_⟩
  rw [List.append_nil]
  refine (hc g.St w _ hi.st hi.gl hr).mono fun e w' ⟨v, St', he, hrep, hbel, hkeep, hnew, hlt⟩ => ?_
  exact ⟨v, { g with St := St' }, he, ⟨rfl, rfl, rfl, rfl, hbel.os, hbel.tape, hbel.output, hbel.size, hbel.block, hkeep.sub, hnew, hlt⟩, hrep⟩
end

section
variable {C : Ctx} {ops : Array Oper} {rest : List Oper} {K : Sl → List Ob → Prop} {σ : Sl} {η : List Ob} {d : Nat} {ty : TypeId} {pos : String} {after : Array Edge} {gd : Option (Nat × Bool)} {t : TypeId} {x y : Operand}
/-- a call of a function, or of a closure, that writes to objects -/
theorem aMClo0 {f : FuncId} {args : List Operand} {ts : Array TypeId} {as : List SV} {pre post : List Ob} {res : SV} {cids : List Nat} (ids cs : List Nat) (hx : oval σ x = .clo f cids) (hcs : cs.map (fun j => ids.getD j 0) = cids) (hb : hasBody C.P f = true) (hc : MCall C.P f (as ++ cs.map fun j => SV.ptr j 0) pre res post) (ha : SArgs σ ids args as) (hp : Picks η ids pre) (hd : Nat.blt d C.N = true)
    (hn : ids.Nodup) (hlen : ids.length = pre.length) (hu : unlaid pre = true) (hbl : pre.all (Ob.below pre.length) = true) (hba : (as ++ cs.map fun j => SV.ptr j 0).all (SV.bel pre.length) = true) (hk : sameAll pre post = true) (hro : ids.all (fun i => Nat.ble C.ro i) = true)
    (h : alex C false ops rest K ((d, res.ren ids) :: wipeσ (bufsOf ids pre) ids σ) (setAll (wipeη (bufsOf ids pre) ids η) ids (post.map (Ob.ren ids)))) :
    astep C false ops ⟨some d, .call ⟨.value x, args.toArray, ts⟩, ty, pos, after, gd⟩ rest K σ η := by
  intro Q hQ a w ⟨g, hg⟩ K' hK'
  obtain ⟨cv, e1, e2, e3⟩ := clo_args (g := g) (w := w) (a := a) hx hcs (hg.eval x) (fun y _ => hg.eval y) ha
  unfold Oper.wp
  rw [run_callv e1 hb, Oper.upon_enter]
  have hr := RepSs.callee (g := g) (w := w) hlen _ _ e3 e2 hba
  refine (hc (calleeG g ids) w _ (hg.inv.callee hn hlen hp hu hbl) hr).mono fun e w' ⟨v, g', he, hI, hres, hF⟩ => ?_
  subst he
  obtain ⟨hk1, hk2⟩ := sameAll_same hk
  obtain ⟨g2, h1, h2⟩ := hg.called hn hlen hp hk1 hro hI hres hF
  obtain ⟨e4, e5⟩ := ηOf_same (ids := ids) (η := η) hk2
  rw [e4] at h1; rw [e5] at h2
  exact hK' _ _ (h Q hQ _ w' ⟨g2, h1.put (d := some d) hd h2⟩)

theorem aMClo {f : FuncId} {args : List Operand} {ts : Array TypeId} {asx : List SV} {pre post : List Ob} {res : SV} {cids : List Nat} (ids cs : List Nat) (hx : oval σ x = .clo f cids) (hcs : cs.map (fun j => ids.getD j 0) = cids) (hb : hasBody C.P f = true) (hc : MCall C.P f asx pre res post) (hsp : asx.drop args.length = cs.map fun j => SV.ptr j 0) (ha : SArgs σ ids args (asx.take args.length)) (hp : Picks η ids pre) (hd : Nat.blt d C.N = true)
    (hn : ids.Nodup) (hlen : ids.length = pre.length) (hu : unlaid pre = true) (hbl : pre.all (Ob.below pre.length) = true) (hba : asx.all (SV.bel pre.length) = true) (hk : sameAll pre post = true) (hro : ids.all (fun i => Nat.ble C.ro i) = true)
    (h : alex C false ops rest K ((d, res.ren ids) :: wipeσ (bufsOf ids pre) ids σ) (setAll (wipeη (bufsOf ids pre) ids η) ids (post.map (Ob.ren ids)))) :
    astep C false ops ⟨some d, .call ⟨.value x, args.toArray, ts⟩, ty, pos, after, gd⟩ rest K σ η := by
  have e : asx = asx.take args.length ++ cs.map fun j => SV.ptr j 0 := by rw [← hsp, List.take_append_drop]
  exact aMClo0 ids cs hx hcs hb (e ▸ hc) ha hp hd hn hlen hu hbl (e ▸ hba) hk hro h

theorem aBoxT {s : SV} {cs : List SV} (hx : oval σ x = s) (hc : scells s = some cs) (hd : Nat.blt d C.N = true) (hro : Nat.ble C.ro η.length = true) (h : alex C false ops rest K ((d, .ptr η.length 0) :: σ) (η ++ [.bx none (some t) cs]) ) :
    astep C false ops ⟨some d, .box t x, ty, pos, after, gd⟩ rest K σ η := by
  refine estep (fun g a w ha => ?_) h
  have hr := ha.eval x
  rw [hx] at hr
  obtain ⟨h1, h2, h3⟩ := hr.cells hc
  exact ⟨_, _, by simp [execOp, Instr.box, newVar, newRow], absBoxT (some t) ha t (fun _ h => (Option.some.inj h).symm) (a.eval x).cells cs hd (Nat.le_of_ble_eq_true hro) h1 h2 h3⟩

/-! ### ghosts: a nil slice in a box becomes a row -/
theorem awp_cellbuf {Q : Exit → Sl → List Ob → Prop} {c : Code} (id j : Nat) (mu : Bool) (e sz : Nat) {k : Option Nat} {et : Option TypeId} {cs : List SV} (ho : η[id]? = some (.bx k et cs)) (hj : cs[j]? = some (.d (.val (.slice none 0 0)))) (hro : Nat.ble C.ro η.length = true)
    (h : awp C c Q σ (η.set id (.bx k et (cs.set j (.buf η.length 0))) ++ [.buf mu e sz []])) : awp C c Q σ η := by
  intro R hR a w ⟨g, ha⟩
  refine h R hR a w ?_
  have hn := ha.inv.n
  let g' : Gh := { g with blk := upd g.blk g.n none, cap := upd g.cap g.n 0, sz := upd g.sz g.n sz, n := g.n + 1 }
  have hold : ∀ id, id < g.n → g'.blk id = g.blk id ∧ g'.cap id = g.cap id ∧ g'.sz id = g.sz id := fun id hid => by simp [g', upd, Nat.ne_of_lt hid]
  have hab := ha.newOb (g' := g') (w' := w) (.buf mu e sz []) rfl rfl rfl (Nat.le_refl _) (fun _ _ => rfl) rfl hold (fun id hid => by
      have hne : id ≠ g.n := by omega
      simp only [g', upd, if_neg hne]
      exact ha.inv.dead id (by omega)) (fun b hb => by simp [g', upd] at hb) (fun _ _ h => h) (fun _ _ h => .inl h) ha.inv.st (by rw [hn]; exact Nat.le_of_ble_eq_true hro)
    ⟨by simp [g', upd], by simp, by simp [g', upd], by simp, .inl ⟨by simp [g', upd], by simp [g', upd]⟩⟩
  have hidl : id < η.length := (List.getElem?_eq_some_iff.1 ho).1
  refine ⟨g', { hab with inv := { hab.inv with n := by simpa using hab.inv.n, ob := fun i o hi => ?_ } }⟩
  rcases Nat.lt_or_ge i η.length with hil | hil
  · rw [List.getElem?_append_left (by simpa using hil), List.getElem?_set] at hi
    split at hi
    · rename_i hc; subst hc
      try rw [if_pos hidl] at hi
      injection hi with hi; subst hi
      obtain ⟨b, e', us, h1, h2, h3, h4, h5, h6, h7⟩ := hab.inv.ob id (.bx k et cs) (by rw [List.getElem?_append_left hidl]; exact ho)
      refine ⟨b, e', us, h1, h2, by simpa using h3, h4, fun m u s hu hs => ?_, h6, h7⟩
      rw [List.getElem?_set] at hs
      split at hs
      · rename_i hm; subst hm
        have hjl := (List.getElem?_eq_some_iff.1 hj).1
        try rw [if_pos hjl] at hs
        injection hs with hs; subst hs
        have h8 := RepD.val_eq (h5 j u _ hu hj)
        refine ⟨by show η.length < g.n + 1; omega, ?_⟩
        rw [h8, ← hn]; simp [g', upd]
      · exact h5 m u s hu hs
    · exact hab.inv.ob i o (by rw [List.getElem?_append_left hil]; exact hi)
  · rw [List.getElem?_append_right (by simpa using hil)] at hi
    exact hab.inv.ob i o (by rw [List.getElem?_append_right hil]; simpa using hi)
end

/-! ### a row's head, in a region that draws its order -/
def isPtr (v : Value) : Prop := ∃ p, v = .pointer p
section
variable {P : Program} {η : List Ob} {σ : Sl} {dst : Option Nat} {ty : TypeId} {pos : String} {after : Array Edge} {gd : Option (Nat × Bool)} {t yt : TypeId} {x y : Operand}
theorem sliceData_any {id n e : Nat} {mu : Bool} {l : List UInt8} {te : TypeId} (hx : oval σ x = .buf id n) (ho : η[id]? = some (.buf mu e 1 (bys l))) (hn : n = l.length) (hp : P.underlying ty = some (.pointer te)) (s : SV) (h1 : 0 < l.length → s = .bptr id 0 0) (h0 : l.length = 0 → s = .p isPtr) :
    Ylds P η σ ⟨dst, .call ⟨.builtin .unsafeSliceData, #[x], #[t]⟩, ty, pos, after, gd⟩ s := by
  subst hn
  intro g w a hi hop
  have hxr := hop x (by simp [Op.operands, Call.operands]); rw [hx] at hxr
  obtain ⟨hidn, hxv⟩ := hxr
  obtain ⟨o1, o2, o3, o4, o5⟩ := hi.ob id _ ho
  rw [bys_len] at o4
  have fin : ∀ (v : Value) (w' : World), (Builtin.unsafeSliceData_ #[t] ty #[a.eval x]).run P w = .ok v w' → (execOp a.eval ⟨dst, .call ⟨.builtin .unsafeSliceData, #[x], #[t]⟩, ty, pos, after, gd⟩).run P w = .ok (.value v) w' := by
    intro v w' hr
    simp only [execOp, resolve, invoke, builtin, Sem.run_bind, Sem.run_pure, Result.andThen_ok, List.map_toArray, List.map_cons, List.map_nil, hr]
  refine .inl ?_
  rcases o5 with ⟨hb, hc⟩ | ⟨b, us, hb, hh, hsz, _, _, _⟩
  · have hl : l.length = 0 := by omega
    rw [hb] at hxv
    exact ⟨.pointer none, g, w, fin _ _ (by rw [hxv]; exact run_unsafeSliceData_nil w _ _ _ _), Grow.refl hi.st, by rw [h0 hl]; exact ⟨_, rfl⟩⟩
  · rw [hb] at hxv
    by_cases hcap : g.cap id = 0
    · have hl : l.length = 0 := by omega
      rw [hcap, hl] at hxv
      have hsh : w.shape? b = some (e, us.size) := by unfold World.shape?; rw [hh]
      have hr := run_unsafeSliceData_zero (P := P) w #[t] ty te hp ⟨b, 0, none⟩ 0 (e, us.size) hsh
      have hgr : Grow g w g (w.alloc (.view ⟨b, 0, none⟩ te)) := ⟨rfl, rfl, rfl, rfl, rfl, rfl, rfl, by simp, fun k hk => Below.heap_alloc w _ k hk, fun _ _ h => h, fun _ _ h => .inl h, fun b o hb => Nat.lt_of_lt_of_le (hi.st b o hb) (by simp)⟩
      exact ⟨.pointer (some ⟨w.heap.size, 0, none⟩), g, _, fin _ _ (by rw [hxv]; exact hr), hgr, by rw [h0 hl]; exact ⟨_, rfl⟩⟩
    · have hr := run_unsafeSliceData_row (P := P) w #[t] ty ⟨b, 0, none⟩ l.length (g.cap id) hcap
      refine ⟨.pointer (some ⟨b, 0, none⟩), g, w, fin _ _ (by rw [hxv]; exact hr), Grow.refl hi.st, ?_⟩
      rcases Nat.eq_zero_or_pos l.length with hl | hl
      · rw [h0 hl]; exact ⟨_, rfl⟩
      · rw [h1 hl]; exact ⟨hidn, b, hb, by simp⟩
theorem Y_sdata1 {id n e : Nat} {mu : Bool} {l : List UInt8} {te : TypeId} (hx : oval σ x = .buf id n) (ho : η[id]? = some (.buf mu e 1 (bys l))) (hn : n = l.length) (hp : P.underlying ty = some (.pointer te)) (hl : l ≠ []) : Ylds P η σ ⟨dst, .call ⟨.builtin .unsafeSliceData, #[x], #[t]⟩, ty, pos, after, gd⟩ (.bptr id 0 0) :=
  sliceData_any hx ho hn hp _ (fun _ => rfl) (fun h => absurd (List.eq_nil_of_length_eq_zero h) hl)
theorem Y_sdata0 {id n e : Nat} {mu : Bool} {te : TypeId} (hx : oval σ x = .buf id n) (ho : η[id]? = some (.buf mu e 1 (bys []))) (hn : n = 0) (hp : P.underlying ty = some (.pointer te)) : Ylds P η σ ⟨dst, .call ⟨.builtin .unsafeSliceData, #[x], #[t]⟩, ty, pos, after, gd⟩ (.p isPtr) :=
  sliceData_any hx ho hn hp _ (fun h => absurd h (by simp)) (fun _ => rfl)
theorem Y_ustr0p {t1 t2 : TypeId} (hx : oval σ x = .p isPtr) (hy : oval σ y = .d (.val (.int .i64 0))) : Ylds P η σ ⟨dst, .call ⟨.builtin .unsafeString, #[x, y], #[t1, t2]⟩, ty, pos, after, gd⟩ (.d (str [])) := by
  refine Ylds.same fun g w a hi h => ⟨.string .empty, ?_, .val _⟩
  have h1 := h x (by simp [Op.operands, Call.operands]); rw [hx] at h1
  have h2 := h y (by simp [Op.operands, Call.operands]); rw [hy] at h2
  obtain ⟨p, hp⟩ := h1
  simp only [execOp, resolve, invoke, builtin, Sem.run_bind, Sem.run_pure, Result.andThen_ok, List.map_toArray, List.map_cons, List.map_nil, hp, RepD.val_eq h2, run_unsafeString_none]
end
end Go.Sx
/- The engine: structs built of two or three values. -/
namespace Go.Sx
section
variable {P : Program} {η : List Ob} {σ : Sl} {dst : Option Nat} {ty : TypeId} {pos : String} {after : Array Edge} {gd : Option (Nat × Bool)} {t : TypeId}
theorem Y_build2 {i1 i2 : Nat} {x1 x2 : Operand} {v1 v2 : Value} {cells : List Value} (hx1 : oval σ x1 = .d (.val v1)) (hx2 : oval σ x2 = .d (.val v2))
    (hb : P.built t [(i1, v1), (i2, v2)] = some cells.toArray) (h1 : cells.all (·.oneCell') = true) : Ylds P η σ ⟨dst, .build t #[(i1, x1), (i2, x2)], ty, pos, after, gd⟩ (.d (.agg (cells.map .val))) :=
  Y_build (ps := [(i1, x1), (i2, x2)]) rfl (fun j p q hp hq => by
    match j, hp, hq with
    | 0, hp, hq => injection hp with hp; injection hq with hq; subst hp; subst hq; exact ⟨rfl, hx1⟩
    | 1, hp, hq => injection hp with hp; injection hq with hq; subst hp; subst hq; exact ⟨rfl, hx2⟩
    | j + 2, hp, hq => simp at hp) hb h1
theorem Y_build3 {i1 i2 i3 : Nat} {x1 x2 x3 : Operand} {v1 v2 v3 : Value} {cells : List Value} (hx1 : oval σ x1 = .d (.val v1)) (hx2 : oval σ x2 = .d (.val v2)) (hx3 : oval σ x3 = .d (.val v3))
    (hb : P.built t [(i1, v1), (i2, v2), (i3, v3)] = some cells.toArray) (h1 : cells.all (·.oneCell') = true) : Ylds P η σ ⟨dst, .build t #[(i1, x1), (i2, x2), (i3, x3)], ty, pos, after, gd⟩ (.d (.agg (cells.map .val))) :=
  Y_build (ps := [(i1, x1), (i2, x2), (i3, x3)]) rfl (fun j p q hp hq => by
    match j, hp, hq with
    | 0, hp, hq => injection hp with hp; injection hq with hq; subst hp; subst hq; exact ⟨rfl, hx1⟩
    | 1, hp, hq => injection hp with hp; injection hq with hq; subst hp; subst hq; exact ⟨rfl, hx2⟩
    | 2, hp, hq => injection hp with hp; injection hq with hq; subst hp; subst hq; exact ⟨rfl, hx3⟩
    | j + 3, hp, hq => simp at hp) hb h1
end
end Go.Sx
/- The engine: a nil slice of a variable's own becomes a row (ghost). -/
namespace Go.Sx
open Go.RowKit Go.Lib
section
variable {C : Ctx} {σ : Sl} {η : List Ob}
theorem awp_cellbufn {Q : Exit → Sl → List Ob → Prop} {c : Code} (id j : Nat) (mu : Bool) (e sz : Nat) {k : Option Nat} {et : Option TypeId} {cs : List SV} (ho : η[id]? = some (.bx k et cs)) (hj : cs[j]? = some .nil) (hro : Nat.ble C.ro η.length = true)
    (h : awp C c Q σ (η.set id (.bx k et (cs.set j (.buf η.length 0))) ++ [.buf mu e sz []])) : awp C c Q σ η := by
  intro R hR a w ⟨g, ha⟩
  refine h R hR a w ?_
  have hn := ha.inv.n
  let g' : Gh := { g with blk := upd g.blk g.n none, cap := upd g.cap g.n 0, sz := upd g.sz g.n sz, n := g.n + 1 }
  have hold : ∀ id, id < g.n → g'.blk id = g.blk id ∧ g'.cap id = g.cap id ∧ g'.sz id = g.sz id := fun id hid => by simp [g', upd, Nat.ne_of_lt hid]
  have hab := ha.newOb (g' := g') (w' := w) (.buf mu e sz []) rfl rfl rfl (Nat.le_refl _) (fun _ _ => rfl) rfl hold (fun id hid => by
      have hne : id ≠ g.n := by omega
      simp only [g', upd, if_neg hne]
      exact ha.inv.dead id (by omega)) (fun b hb => by simp [g', upd] at hb) (fun _ _ h => h) (fun _ _ h => .inl h) ha.inv.st (by rw [hn]; exact Nat.le_of_ble_eq_true hro)
    ⟨by simp [g', upd], by simp, by simp [g', upd], by simp, .inl ⟨by simp [g', upd], by simp [g', upd]⟩⟩
  have hidl : id < η.length := (List.getElem?_eq_some_iff.1 ho).1
  refine ⟨g', { hab with inv := { hab.inv with n := by simpa using hab.inv.n, ob := fun i o hi => ?_ } }⟩
  rcases Nat.lt_or_ge i η.length with hil | hil
  · rw [List.getElem?_append_left (by simpa using hil), List.getElem?_set] at hi
    split at hi
    · rename_i hc; subst hc
      try rw [if_pos hidl] at hi
      injection hi with hi; subst hi
      obtain ⟨b, e', us, h1, h2, h3, h4, h5, h6, h7⟩ := hab.inv.ob id (.bx k et cs) (by rw [List.getElem?_append_left hidl]; exact ho)
      refine ⟨b, e', us, h1, h2, by simpa using h3, h4, fun m u s hu hs => ?_, h6, h7⟩
      rw [List.getElem?_set] at hs
      split at hs
      · rename_i hm; subst hm
        have hjl := (List.getElem?_eq_some_iff.1 hj).1
        try rw [if_pos hjl] at hs
        injection hs with hs; subst hs
        have h8 : u = .slice none 0 0 := h5 j u _ hu hj
        refine ⟨by show η.length < g.n + 1; omega, ?_⟩
        rw [h8, ← hn]; simp [g', upd]
      · exact h5 m u s hu hs
    · exact hab.inv.ob i o (by rw [List.getElem?_append_left hil]; exact hi)
  · rw [List.getElem?_append_right (by simpa using hil)] at hi
    exact hab.inv.ob i o (by rw [List.getElem?_append_right hil]; simpa using hi)
end
end Go.Sx
/- The engine: any number of results, and results that lie in cells. -/
namespace Go.Sx
open Go.RowKit Go.Lib

def rvRun (tmps : Array Value) : ResultVar → Sem Value
  | .tmp t => pure (tmps.getD t undef)
  | .cell a t => do loadVar t (← asAddr (tmps.getD a undef))

theorem mapM_run {P : Program} {w : World} {tmps : Array Value} : ∀ (l : List ResultVar) (vs : List Value), l.length = vs.length → (∀ (j : Nat) r v, l[j]? = some r → vs[j]? = some v → (rvRun tmps r).run P w = .ok v w) → (l.mapM (rvRun tmps)).run P w = .ok vs w
  | [], [], _, _ => rfl
  | r :: l, v :: vs, hl, h => by
    have h0 := h 0 r v rfl rfl
    have ih := mapM_run l vs (by simpa using hl) (fun j r v h1 h2 => h (j + 1) r v (by simpa using h1) (by simpa using h2))
    rw [List.mapM_cons]
    simp only [Sem.run_bind, h0, Result.andThen_ok, ih, Sem.run_pure]
  | [], _ :: _, hl, _ => by simp at hl
  | _ :: _, [], hl, _ => by simp at hl

def tupV : List Value → Value
  | [v] => v
  | vs => .tuple vs.toArray

theorem results_list {P : Program} {w : World} {fn : Func} {tmps : Array Value} {l : List ResultVar} {vs : List Value} (hrs : fn.results = l.toArray) (hl : l.length = vs.length) (h : ∀ (j : Nat) r v, l[j]? = some r → vs[j]? = some v → (rvRun tmps r).run P w = .ok v w) : (results fn tmps).run P w = .ok (tupV vs) w := by
  have h1 := mapM_run l vs hl h
  have e : results fn tmps = (do let vs ← fn.results.mapM (rvRun tmps); pure (if h : vs.size = 1 then vs[0] else .tuple vs)) := by
    unfold results; congr 2
  rw [e, hrs, Array.mapM_eq_mapM_toList]
  simp only [Sem.run_bind, Sem.run_map, h1, Sem.run_pure, Result.andThen_ok]
  match vs with
  | [] => rfl
  | [v] => rfl
  | v :: u :: r => simp [tupV]

/-- cells, read as data -/
def CoV (η : List Ob) : List SV → List D → Prop
  | [], [] => True
  | s :: ss, d :: ds => Co η s d ∧ CoV η ss ds
  | _, _ => False
theorem CoV.len {η : List Ob} : ∀ {ss : List SV} {ds : List D}, CoV η ss ds → ss.length = ds.length
  | [], [], _ => rfl
  | _ :: _, _ :: _, h => by simp [CoV.len h.2]
  | [], _ :: _, h => h.elim
  | _ :: _, [], h => h.elim
theorem CoV.get {η : List Ob} : ∀ {ss : List SV} {ds : List D}, CoV η ss ds → ∀ (j : Nat) s d, ss[j]? = some s → ds[j]? = some d → Co η s d
  | s :: ss, d :: ds, h, 0, s', d', h1, h2 => by simp at h1 h2; subst h1; subst h2; exact h.1
  | s :: ss, d :: ds, h, j + 1, s', d', h1, h2 => CoV.get h.2 j s' d' (by simpa using h1) (by simpa using h2)
  | [], [], _, j, _, _, h1, _ => by simp at h1
  | [], _ :: _, h, _, _, _, _, _ => h.elim
  | _ :: _, [], h, _, _, _, _, _ => h.elim
theorem CoV_ds {η : List Ob} : ∀ {ss : List SV} {ds : List D}, toDs ss = some ds → CoV η ss ds
  | [], ds, h => by simp [toDs] at h; subst h; trivial
  | s :: r, ds, h => by
    cases s <;> simp only [toDs] at h
    all_goals first
      | (cases h; done)
      | (cases h2 : toDs r with
         | none => rw [h2] at h; cases h
         | some ds' => rw [h2] at h; cases h; exact ⟨by first | exact rfl | exact .inl rfl, CoV_ds h2⟩)

def RVal (P : Program) (σ : Sl) (η : List Ob) : ResultVar → D → Prop
  | .tmp r, d => Co η (get σ r) d
  | .cell a t, d => ∃ id o n kb et cs, get σ a = .ptr id o ∧ η[id]? = some (.bx kb et cs) ∧
      ((tyCells P t = some (true, n) ∧ o + n ≤ cs.length ∧ ∃ ds, CoV η ((cs.drop o).take n) ds ∧ d = .agg ds) ∨ (tyCells P t = some (false, n) ∧ ∃ s, cs[o]? = some s ∧ Co η s d))

def RVals (P : Program) (σ : Sl) (η : List Ob) : List ResultVar → List D → Prop
  | [], [] => True
  | r :: rs, d :: ds => RVal P σ η r d ∧ RVals P σ η rs ds
  | _, _ => False

def ResC (P : Program) (rs : Array ResultVar) (σ : Sl) (η : List Ob) (res : D) : Prop :=
  match rs.toList, res with
  | [r], d => RVal P σ η r d
  | l, .tup ds => RVals P σ η l ds
  | _, _ => False

def rpostC (P : Program) (rs : Array ResultVar) (res : D) : Exit → Sl → List Ob → Prop
  | .ret, σ, η => ResC P rs σ η res
  | .normal, σ, η => ResC P rs σ η res
  | _, _, _ => False
theorem rpostC_ret {P : Program} {rs : Array ResultVar} {res : D} {σ : Sl} {η : List Ob} (h : ResC P rs σ η res) : rpostC P rs res .ret σ η := h
section
variable {P : Program} {σ : Sl} {η : List Ob}
theorem resC_tup {r1 r2 : ResultVar} {rs : List ResultVar} {ds : List D} (h : RVals P σ η (r1 :: r2 :: rs) ds) : ResC P (r1 :: r2 :: rs).toArray σ η (.tup ds) := h
theorem resC_one {r : ResultVar} {d : D} (h : RVals P σ η [r] [d]) : ResC P [r].toArray σ η d := h.1
theorem RV_nil : RVals P σ η [] [] := trivial
theorem RV_d {r : Nat} {d d' : D} {rs : List ResultVar} {ds : List D} (h : get σ r = .d d') (h2 : RVals P σ η rs ds) (e : d' = d) : RVals P σ η (.tmp r :: rs) (d :: ds) := by
  subst e; exact ⟨by show Co η (get σ r) _; rw [h]; rfl, h2⟩
theorem RV_n {r : Nat} {rs : List ResultVar} {ds : List D} {d : D} (h : get σ r = .nil) (h2 : RVals P σ η rs ds) (e : D.slice [] = d) : RVals P σ η (.tmp r :: rs) (d :: ds) := by
  subst e; exact ⟨by show Co η (get σ r) _; rw [h]; exact .inl rfl, h2⟩
theorem RV_b {r : Nat} {rs : List ResultVar} {ds : List D} {d : D} {id n e sz : Nat} {xs : List D} (h : get σ r = .buf id n) (ho : η[id]? = some (.buf false e sz xs)) (hn : n = xs.length) (h2 : RVals P σ η rs ds) (he : D.slice xs = d) : RVals P σ η (.tmp r :: rs) (d :: ds) := by
  subst he; exact ⟨by show Co η (get σ r) _; rw [h]; exact Co_buf ho hn, h2⟩
theorem RV_c {a t id o n : Nat} {kb : Option Nat} {et : Option TypeId} {cs : List SV} {ds' : List D} {d : D} {rs : List ResultVar} {ds : List D} (h : get σ a = .ptr id o) (ho : η[id]? = some (.bx kb et cs)) (ht : tyCells P t = some (true, n)) (hl : Nat.ble (o + n) cs.length = true) (hs : toDs ((cs.drop o).take n) = some ds') (h2 : RVals P σ η rs ds) (e : D.agg ds' = d) : RVals P σ η (.cell a t :: rs) (d :: ds) := by
  subst e; exact ⟨⟨id, o, n, kb, et, cs, h, ho, .inl ⟨ht, Nat.le_of_ble_eq_true hl, ds', CoV_ds hs, rfl⟩⟩, h2⟩
theorem RV_c1 {a t id o n : Nat} {kb : Option Nat} {et : Option TypeId} {cs : List SV} {d d' : D} {rs : List ResultVar} {ds : List D} (h : get σ a = .ptr id o) (ho : η[id]? = some (.bx kb et cs)) (ht : tyCells P t = some (false, n)) (hs : cs[o]? = some (.d d')) (h2 : RVals P σ η rs ds) (e : d' = d) : RVals P σ η (.cell a t :: rs) (d :: ds) := by
  subst e; exact ⟨⟨id, o, n, kb, et, cs, h, ho, .inr ⟨ht, _, hs, rfl⟩⟩, h2⟩
end

theorem RVal.run {P : Program} {r : ResultVar} {σ : Sl} {η : List Ob} {d : D} {g : Gh} {w : World} {a : Act} {C : Ctx} (h : RVal P σ η r d) (ha : AbsG C g σ η a w) : ∃ v, (rvRun a.tmps r).run P w = .ok v w ∧ RepD g.St w v d := by
  cases r with
  | tmp r => exact ⟨_, rfl, Co.rep ha.inv (ha.rep r) h⟩
  | cell r t =>
    obtain ⟨id, o, n, kb, et, cs, h0, ho, h⟩ := h
    have h1 := ha.rep r; rw [h0] at h1
    obtain ⟨hid, b, hb, hv⟩ := h1
    obtain ⟨b', e, us, h2, h3, h4, h5, h6, h7, _⟩ := ha.inv.ob id _ ho
    rw [hb] at h2; injection h2 with h2; subst h2
    rcases h with ⟨ht, hl, ds, hs, rfl⟩ | ⟨ht, s, hs, hc⟩
    · have hrun := run_loadCells_list (P := P) w ⟨b, o, none⟩ ((us.toList.drop o).take n) (fun j v hj => by
        rw [List.getElem?_take] at hj
        split at hj
        · rw [Addr.add_lit, cell_of_row w b _ us e (0, 0) h3]
          simpa using hj
        · cases hj)
      have hlen : ((us.toList.drop o).take n).length = n := by rw [List.length_take, List.length_drop, Array.length_toList]; omega
      rw [hlen] at hrun
      have e1 := hs.len
      have hcl : ((cs.drop o).take n).length = n := by rw [List.length_take, List.length_drop]; omega
      refine ⟨.agg ((us.toList.drop o).take n).toArray, ?_, .agg _ _ (by omega) (fun u hm => h5 u (Array.mem_toList_iff.1 (List.mem_of_mem_drop (List.mem_of_mem_take hm)))) (fun j u d hj hd => ?_)⟩
      · simp only [rvRun, hv, asAddr, loadVar, Sem.run_bind, Sem.run_pure, Result.andThen_ok, (tyCells_some ht w).1, (tyCells_some ht w).2, if_true, hrun]
      · have hjl : j < n := by
          have := (List.getElem?_eq_some_iff.1 hj).1; omega
        have hsj : ((cs.drop o).take n)[j]? = some (((cs.drop o).take n)[j]'(by omega)) := List.getElem?_eq_getElem (by omega)
        refine Co.rep ha.inv (h6 (o + j) u _ ?_ ?_) (hs.get j _ d hsj hd)
        · rw [List.getElem?_take, if_pos hjl] at hj; simpa using hj
        · rw [← hsj, List.getElem?_take, if_pos hjl]; simp
    · have hlt : o < us.size := by rw [h4]; exact (List.getElem?_eq_some_iff.1 hs).1
      refine ⟨us[o], ?_, Co.rep ha.inv (h6 o _ _ (Array.getElem?_eq_getElem hlt) hs) hc⟩
      have hcell : w.cell? ⟨b, o, none⟩ = some us[o] := by rw [cell_of_row w b o us e (0, 0) h3]; exact Array.getElem?_eq_getElem hlt
      simp [rvRun, hv, asAddr, loadVar, (tyCells_some ht w).1, hcell]

theorem RVals.run {P : Program} {σ : Sl} {η : List Ob} {g : Gh} {w : World} {a : Act} {C : Ctx} (ha : AbsG C g σ η a w) : ∀ {rs : List ResultVar} {ds : List D}, RVals P σ η rs ds → ∃ vs : List Value, rs.length = vs.length ∧ vs.length = ds.length ∧ (∀ (j : Nat) r v, rs[j]? = some r → vs[j]? = some v → (rvRun a.tmps r).run P w = .ok v w) ∧ ∀ (j : Nat) v d, vs[j]? = some v → ds[j]? = some d → RepD g.St w v d
  | [], [], _ => ⟨[], rfl, rfl, fun j r v h => by simp at h, fun j v d h => by simp at h⟩
  | r :: rs, d :: ds, h => by
    obtain ⟨v, h1, h2⟩ := h.1.run ha
    obtain ⟨vs, e1, e2, e3, e4⟩ := RVals.run ha h.2
    refine ⟨v :: vs, by simp [e1], by simp [e2], fun j r' v' hr hv => ?_, fun j v' d' hv hd => ?_⟩
    · cases j with
      | zero => simp at hr hv; subst hr; subst hv; exact h1
      | succ j => exact e3 j r' v' (by simpa using hr) (by simpa using hv)
    · cases j with
      | zero => simp at hv hd; subst hv; subst hd; exact h2
      | succ j => exact e4 j v' d' (by simpa using hv) (by simpa using hd)
  | [], _ :: _, h => h.elim
  | _ :: _, [], h => h.elim

theorem ResC.run {rs : Array ResultVar} {σ : Sl} {η : List Ob} {res : D} {P : Program} {fn : Func} {g : Gh} {w : World} {a : Act} {C : Ctx} (hrs : fn.results = rs) (h : ResC P rs σ η res) (ha : AbsG C g σ η a w) : ∃ v, (results fn a.tmps).run P w = .ok v w ∧ RepD g.St w v res := by
  obtain ⟨rl⟩ := rs
  unfold ResC at h
  split at h
  · rename_i r hr
    simp at hr; subst hr
    obtain ⟨v, h1, h2⟩ := h.run ha
    refine ⟨v, results_list (l := [r]) (vs := [v]) hrs rfl (fun j r' v' hr hv => ?_), h2⟩
    cases j with
    | zero => simp at hr hv; subst hr; subst hv; exact h1
    | succ j => simp at hr
  · rename_i ds hne
    obtain ⟨vs, e1, e2, e3, e4⟩ := RVals.run ha h
    refine ⟨tupV vs, results_list hrs e1 e3, ?_⟩
    have e5 : tupV vs = .tuple vs.toArray := by
      match vs, rl with
      | [], _ => rfl
      | [v], [r] => exact absurd rfl (hne r)
      | [v], [] => simp at e1
      | [v], _ :: _ :: _ => simp at e1
      | v :: u :: r, _ => rfl
    rw [e5]; exact .tup vs ds e2 e4
  · exact h.elim

/-- A FUNCTION IS ENTERED, whose results may lie in cells. -/
theorem pcall_ofC {P : Program} {f : FuncId} {fn : Func} {c : Code} {ds : List D} {res : D} {N : Nat} {rs : Array ResultVar} (hf : P.funcs[f]? = some fn) (hb : fn.body = some c) (hN : fn.ntmps = N) (hrs : fn.results = rs) (hl : Nat.ble ds.length N = true)
    (h : ∀ (w0 : World) (St0 : Stab), awp ⟨P, N, w0, St0, fun _ => False, 0⟩ c (rpostC P rs res) (args0 ds 0) []) : PCall P f ds res := by
  intro St w vs hst hgl hrep
  subst hN
  have hl := Nat.le_of_ble_eq_true hl
  have hlen := hrep.len
  refine calls_of_wp hf hb (h w St _ ?_ _ _ ?_)
  · intro e σ' η' a' w' hq ⟨g, ha⟩
    have fin : ResC P rs σ' η' res → a'.defers = [] ∧ ∃ v, (results fn a'.tmps).run P w' = .ok v w' ∧ ∃ v_1 St', Ending.returned v = .returned v_1 ∧ RepD St' w' v_1 res ∧ Below w.heap.size w w' ∧ Keep St w St' w' ∧
      (∀ b o, St' b o → St b o ∨ w.heap.size ≤ b) ∧ (∀ b o, St' b o → b < w'.heap.size) := by
      intro hq
      obtain ⟨v, hr, hd⟩ := hq.run (P := P) hrs ha
      refine ⟨ha.defers, v, hr, v, g.St, rfl, hd, ⟨ha.os, ha.tape, ha.output, ha.wsize, fun k hk => ha.heap k hk (fun h => h)⟩, ha.keep, fun b o hb => ?_, ha.inv.st⟩
      rcases ha.new b o hb with h1 | h1 | h1
      · exact .inl h1
      · exact .inr h1
      · exact h1.elim
    cases e <;> first | exact fin hq | exact hq.elim
  · refine ⟨⟨St, fun _ => none, fun _ => 0, fun _ => 0, 0⟩, rfl, ?_, ⟨rfl, fun _ _ h => by simp at h, fun _ _ => rfl, fun _ _ _ h => by simp at h, fun _ _ h => by simp at h, hst, hgl⟩, rfl, rfl, rfl, Nat.le_refl _, fun _ _ _ => rfl, Keep.refl St w, fun _ _ h => .inl h, fun _ _ h => by simp at h, ?_⟩
    · simp [hlen]; omega
    · refine args0_rep vs ds 0 _ hrep fun j v hj => ?_
      have hjl : j < vs.length := (List.getElem?_eq_some_iff.1 hj).1
      simp only [Nat.zero_add, Array.getD_eq_getD_getElem?]
      rw [Array.getElem?_append_left (by simpa using hjl)]
      simp [hj]

theorem qcall_ofC {P : Program} {f : FuncId} {fn : Func} {c : Code} {as : List SV} {pre : List Ob} {res : D} {N : Nat} {rs : Array ResultVar} (hf : P.funcs[f]? = some fn) (hb : fn.body = some c) (hN : fn.ntmps = N) (hrs : fn.results = rs) (hl : Nat.ble as.length N = true)
    (h : ∀ (w0 : World) (St0 : Stab), awp ⟨P, N, w0, St0, fun _ => False, pre.length⟩ c (rpostC P rs res) (sargs as 0) pre) : QCall P f as pre res := by
  intro g w vs hi hrep
  subst hN
  have hl := Nat.le_of_ble_eq_true hl
  have hlen := hrep.len
  refine calls_of_wp hf hb (h w g.St _ ?_ _ _ ?_)
  · intro e σ' η' a' w' hq ⟨g', ha⟩
    have fin : ResC P rs σ' η' res → a'.defers = [] ∧ ∃ v, (results fn a'.tmps).run P w' = .ok v w' ∧ ∃ v_1 St', Ending.returned v = .returned v_1 ∧ RepD St' w' v_1 res ∧ Below w.heap.size w w' ∧ Keep g.St w St' w' ∧
      (∀ b o, St' b o → g.St b o ∨ w.heap.size ≤ b) ∧ (∀ b o, St' b o → b < w'.heap.size) := by
      intro hq
      obtain ⟨v, hr, hd⟩ := hq.run (P := P) hrs ha
      refine ⟨ha.defers, v, hr, v, g'.St, rfl, hd, ⟨ha.os, ha.tape, ha.output, ha.wsize, fun k hk => ha.heap k hk (fun h => h)⟩, ha.keep, fun b o hb => ?_, ha.inv.st⟩
      rcases ha.new b o hb with h1 | h1 | h1
      · exact .inl h1
      · exact .inr h1
      · exact h1.elim
    cases e <;> first | exact fin hq | exact hq.elim
  · refine ⟨g, rfl, ?_, hi, rfl, rfl, rfl, Nat.le_refl _, fun _ _ _ => rfl, Keep.refl g.St w, fun _ _ h => .inl h, fun i b hb hr => ?_, ?_⟩
    · simp [hlen]; omega
    · exfalso
      have h1 : pre.length ≤ i := hr
      have h2 := hi.dead i (by rw [hi.n]; exact h1)
      rw [hb] at h2; cases h2
    · refine sargs_rep vs as 0 _ hrep fun j v hj => ?_
      have hjl : j < vs.length := (List.getElem?_eq_some_iff.1 hj).1
      simp only [Nat.zero_add, Array.getD_eq_getD_getElem?]
      rw [Array.getElem?_append_left (by simpa using hjl)]
      simp [hj]
end Go.Sx
/- The engine: rows within a region: what one holds stays from now on; an empty one is the call's own again. -/
namespace Go.Sx
open Go.RowKit Go.Lib
section
variable {C : Ctx} {ops : Array Oper} {rest : List Oper} {K : Sl → List Ob → Prop} {σ : Sl} {η : List Ob}
theorem alex_freeze (id : Nat) {mu : Bool} {e sz : Nat} {xs : List D} (ho : η[id]? = some (.buf mu e sz xs)) (_hmu : mu = true) (hro : Nat.ble C.ro id = true) (h : alex C false ops rest K σ (η.set id (.buf false e sz xs))) : alex C false ops rest K σ η := by
  intro Q hQ a w ⟨g, ha⟩
  refine h Q hQ a w ?_
  have hidl : id < η.length := (List.getElem?_eq_some_iff.1 ho).1
  have hro := Nat.le_of_ble_eq_true hro
  obtain ⟨o1, o2, o3, o4, o5⟩ := ha.inv.ob id _ ho
  let g' : Gh := { g with St := fun b o => g.St b o ∨ (g.blk id = some b ∧ o < xs.length * sz) }
  have kp : Keep g.St w g'.St w := ⟨fun _ _ h => .inl h, fun _ _ _ _ h => h, fun _ _ => rfl⟩
  have re : ∀ {v : Value} {s : SV}, RepS g w v s → RepS g' w v s := fun r => r.ext kp (fun _ _ => ⟨rfl, rfl, rfl⟩) (Nat.le_refl _)
  have lt : ∀ b o, g'.St b o → b < w.heap.size := fun b o hb => by
    rcases hb with hb | ⟨hb, _⟩
    · exact ha.inv.st b o hb
    · exact ha.inv.lt id b hb
  refine ⟨g', ha.defers, ha.size, ⟨by rw [List.length_set]; exact ha.inv.n, ha.inv.lt, ha.inv.dead, ha.inv.inj, fun i o hi => ?_, lt, ha.inv.gl.keep kp⟩, ha.os, ha.tape, ha.output, ha.wsize, ha.heap, ha.keep.trans kp, fun b o hb => ?_, ha.own, fun t => re (ha.rep t)⟩
  · rw [List.getElem?_set] at hi
    split at hi
    · rename_i e; subst e
      try rw [if_pos hidl] at hi
      injection hi with hi; subst hi
      refine ⟨o1, o2, o3, o4, ?_⟩
      rcases o5 with o5 | ⟨b, us, h1, h2, h3, h4, h5, h6⟩
      · exact .inl o5
      · refine .inr ⟨b, us, h1, h2, h3, h4, fun j u d hu hd => (h5 j u d hu hd).keep kp, fun o => ⟨fun hb => ?_, fun hb => .inr ⟨h1, hb.2⟩⟩⟩
        rcases hb with hb | ⟨_, hb⟩
        · exact ⟨rfl, ((h6 o).1 hb).2⟩
        · exact ⟨rfl, hb⟩
    · rename_i e
      refine (ha.inv.ob i o hi).ext kp (fun _ _ => ⟨rfl, rfl, rfl⟩) (Nat.le_refl _) (by rw [ha.inv.n]; exact (List.getElem?_eq_some_iff.1 hi).1) (fun b hb => ⟨rfl, fun o => ⟨fun ho => ?_, fun h => .inl h⟩⟩)
      rcases ho with ho | ⟨ho, _⟩
      · exact ho
      · exact absurd (ha.inv.inj i id b hb ho) (fun h => e h.symm)
  · rcases hb with hb | ⟨hb, _⟩
    · exact ha.new b o hb
    · exact (ha.own id b hb hro).elim (fun h => .inr (.inl h)) (fun h => .inr (.inr h))
theorem alex_thaw (id : Nat) {e sz : Nat} (ho : η[id]? = some (.buf false e sz [])) (h : alex C false ops rest K σ (η.set id (.buf true e sz []))) : alex C false ops rest K σ η := by
  intro Q hQ a w ⟨g, ha⟩
  refine h Q hQ a w ⟨g, { ha with inv := { ha.inv with n := by rw [List.length_set]; exact ha.inv.n, ob := fun i o hi => ?_ } }⟩
  rw [List.getElem?_set] at hi
  split at hi
  · rename_i hc; subst hc
    split at hi
    · injection hi with hi; subst hi
      obtain ⟨h1, h2, h3, h4, h5⟩ := ha.inv.ob id _ ho
      refine ⟨h1, h2, h3, h4, h5.imp (fun h => h) ?_⟩
      rintro ⟨b, us, g1, g2, g3, g4, g5, g6⟩
      exact ⟨b, us, g1, g2, g3, g4, g5, fun o => by rw [g6]; simp⟩
    · cases hi
  · exact ha.inv.ob i o hi
end
end Go.Sx
/- The engine: maps whose keys are whole numbers, or texts: made, looked up, written, gone through. -/
namespace Go.Sx
open Go.RowKit

/-! ### lists of keys and data -/
section
variable {κ : Type} [DecidableEq κ]
def lookK : List (κ × D) → κ → Option D
  | [], _ => none
  | (k, d) :: r, a => if k = a then some d else lookK r a
def putK : List (κ × D) → κ → D → List (κ × D)
  | [], a, d => [(a, d)]
  | (k, e) :: r, a, d => if k = a then (k, d) :: r else (k, e) :: putK r a d
def idxK : List (κ × D) → κ → Nat
  | [], _ => 0
  | (k, _) :: r, a => if k = a then 0 else idxK r a + 1
def kvs (enc : κ → Value) (L : List (κ × D)) : List (Value × D) := L.map fun p => (enc p.1, p.2)

omit [DecidableEq κ] in
theorem kvs_len {enc : κ → Value} {L : List (κ × D)} : (kvs enc L).length = L.length := by simp [kvs]
omit [DecidableEq κ] in
theorem kvs_get {enc : κ → Value} {L : List (κ × D)} {j : Nat} : (kvs enc L)[j]? = (L[j]?).map fun p => (enc p.1, p.2) := by simp [kvs]

theorem lookK_some : ∀ {L : List (κ × D)} {a : κ} {d : D}, lookK L a = some d → L[idxK L a]? = some (a, d) ∧ ∀ e, putK L a e = L.set (idxK L a) (a, e)
  | [], _, _, h => by cases h
  | (k, e) :: r, a, d, h => by
    unfold lookK at h
    unfold idxK
    split at h
    · rename_i hk
      injection h with h; subst h; subst hk
      exact ⟨by simp, fun e' => by simp [putK]⟩
    · rename_i hk
      obtain ⟨h1, h2⟩ := lookK_some h
      exact ⟨by simp [hk, h1], fun e' => by simp [putK, hk, h2]⟩
theorem lookK_none : ∀ {L : List (κ × D)} {a : κ}, lookK L a = none → (∀ p ∈ L, p.1 ≠ a) ∧ (∀ e, putK L a e = L ++ [(a, e)]) ∧ idxK L a = L.length
  | [], _, _ => ⟨by simp, fun e => rfl, rfl⟩
  | (k, e) :: r, a, h => by
    unfold lookK at h
    split at h
    · cases h
    · rename_i hk
      obtain ⟨h1, h2, h3⟩ := lookK_none h
      exact ⟨fun p hp => by rcases List.mem_cons.1 hp with rfl | hp; exact hk; exact h1 p hp, fun e' => by simp [putK, hk, h2], by simp [idxK, hk, h3]⟩
theorem putK_put : ∀ (L : List (κ × D)) (a : κ) (d e : D), putK (putK L a d) a e = putK L a e
  | [], a, d, e => by simp [putK]
  | (k, x) :: r, a, d, e => by
    unfold putK
    by_cases h : k = a
    · simp [h, putK]
    · simp [h, putK, putK_put r a d e]
theorem idxK_put : ∀ (L : List (κ × D)) (a : κ) (d : D), idxK (putK L a d) a = idxK L a
  | [], a, d => by simp [putK, idxK]
  | (k, x) :: r, a, d => by
    unfold putK idxK
    by_cases h : k = a
    · simp [h]
    · simp [h, idxK_put r a d]
theorem lookK_put : ∀ (L : List (κ × D)) (a b : κ) (d : D), lookK (putK L a d) b = if a = b then some d else lookK L b
  | [], a, b, d => by simp [putK, lookK]
  | (k, x) :: r, a, b, d => by
    have ih := lookK_put r a b d
    unfold putK
    by_cases h : k = a
    · subst h
      rw [if_pos rfl]
      unfold lookK
      split <;> rfl
    · rw [if_neg h]
      simp only [lookK]
      by_cases hb : k = b
      · subst hb
        rw [if_pos rfl, if_pos rfl, if_neg (fun e => h e.symm)]
      · rw [if_neg hb, if_neg hb, ih]

/-- keys of a kind that the model compares at once -/
structure KeyOk (P : Program) (K : TypeId) (enc : κ → Value) : Prop where
  ex : ∃ kind, P.underlying K = some kind ∧ (∀ a, MapKept.IsKey kind (enc a)) ∧ (∀ a b, Instr.sameNow kind (enc a) (enc b) = some (decide (a = b))) ∧ ∀ a, Instr.sameBits 10000 (enc a) (enc a) = true

theorem findNow_k {kind : TypeDesc} {enc : κ → Value} (hs : ∀ a b, Instr.sameNow kind (enc a) (enc b) = some (decide (a = b))) (a : κ) : ∀ (es : List MapEntry) (L : List (κ × D)) (i : Nat), es.length = L.length →
    (∀ (j : Nat) e p, es[j]? = some e → L[j]? = some p → e.key = enc p.1) →
    (lookK L a = none ∧ Instr.findNow kind (enc a) es i = some none) ∨ ∃ e d, es[idxK L a]? = some e ∧ lookK L a = some d ∧ Instr.findNow kind (enc a) es i = some (some (i + idxK L a, e.val))
  | [], [], i, _, _ => .inl ⟨rfl, rfl⟩
  | e :: es, (k, d) :: L, i, hl, h => by
    have hk := h 0 e (k, d) rfl rfl
    have h1 := hs a k
    simp only at hk
    unfold Instr.findNow
    rw [hk, h1]
    by_cases hc : k = a
    · subst hc
      exact .inr ⟨e, d, by simp [idxK], by simp [lookK], by simp [idxK]⟩
    · have hc' : ¬ a = k := fun e => hc e.symm
      simp only [hc', decide_false]
      rcases findNow_k hs a es L (i + 1) (by simpa using hl) (fun j e p he hp => h (j + 1) e p (by simpa using he) (by simpa using hp)) with ⟨h2, h3⟩ | ⟨e2, d2, h2, h3, h4⟩
      · exact .inl ⟨by simp [lookK, hc, h2], h3⟩
      · exact .inr ⟨e2, d2, by simp [idxK, hc, h2], by simp [lookK, hc, h3], by rw [h4]; simp [idxK, hc]; omega⟩
  | [], _ :: _, _, hl, _ => by simp at hl
  | _ :: _, [], _, hl, _ => by simp at hl
end

theorem intKey {P : Program} {K : TypeId} {q : IntKind} (h : P.underlying K = some (.int q)) : KeyOk P K (fun a : Int => Value.int q a) :=
  ⟨_, h, fun _ => rfl, fun a b => by simp only [Instr.sameNow, if_true]; rfl, fun a => by simp [Instr.sameBits]⟩
theorem beq_text (a b : List UInt8) : ((⟨a.toArray⟩ : ByteArray) == ⟨b.toArray⟩) = decide (a = b) := by
  show (a.toArray == b.toArray) = decide (a = b)
  by_cases h : a = b
  · subst h; simp
  · simp [h]
theorem strKey {P : Program} {K : TypeId} (h : P.underlying K = some .string) : KeyOk P K (fun l : List UInt8 => Value.string ⟨l.toArray⟩) :=
  ⟨_, h, fun _ => trivial, fun a b => by simp only [Instr.sameNow, beq_text], fun a => by simp only [Instr.sameBits, beq_text, decide_true]⟩

/-! ### facts on a map's type -/
def mapTy (P : Program) (t : TypeId) : Option (TypeId × TypeId) :=
  match P.underlying t with
  | some (.map k e) => some (k, e)
  | _ => none
theorem mapTy_some {P : Program} {t k e : TypeId} (h : mapTy P t = some (k, e)) : P.underlying t = some (.map k e) := by
  unfold mapTy at h
  split at h
  · rename_i hu; simp only [Option.some.injEq, Prod.mk.injEq] at h; rw [hu, h.1, h.2]
  · cases h
/-- the zero value of one cell -/
def zero1 (P : Program) (e : TypeId) : Option D :=
  match P.info? e with
  | some i => match i.zero with
    | some z => match z.oneCell' with
      | true => some (zdv z)
      | false => none
    | none => none
  | none => none
theorem zero1_run {P : Program} {e : TypeId} {zd : D} (h : zero1 P e = some zd) : ∃ z, (∀ w, (zeroValue e).run P w = .ok z w) ∧ ∀ St w, RepD St w z zd := by
  unfold zero1 at h
  split at h
  · rename_i i hi
    split at h
    · rename_i z hz
      split at h
      · injection h with h; subst h
        exact ⟨z, fun w => by simp [zeroValue, typeInfo, hi, hz], fun St w => zdv_rep St w z⟩
      · cases h
    · cases h
  · cases h

/-! ### looked up -/
section
variable {P : Program} {η : List Ob} {σ : Sl} {dst : Option Nat} {ty : TypeId} {pos : String} {after : Array Edge} {gd : Option (Nat × Bool)} {t : TypeId} {x y : Operand} {κ : Type} [DecidableEq κ] {enc : κ → Value}

theorem Y_move_mp {i : Nat} (h : oval σ x = .mp i) : Ylds P η σ ⟨dst, .move x, ty, pos, after, gd⟩ (.mp i) := Y_copy (.inl rfl) h
theorem Y_assign_mp {i : Nat} (h : oval σ x = .mp i) : Ylds P η σ ⟨dst, .assign x, ty, pos, after, gd⟩ (.mp i) := Y_copy (.inr rfl) h
theorem Y_ext0 {a b : SV} (hx : oval σ x = .pair a b) : Ylds P η σ ⟨dst, .extract x 0, ty, pos, after, gd⟩ a := by
  refine Ylds.same fun g w ac hi h => ?_
  have h1 := h x (by simp [Op.operands]); rw [hx] at h1
  obtain ⟨u1, u2, hv, h2, h3⟩ := h1
  exact ⟨u1, by simp [execOp, hv, Instr.extract], h2⟩
theorem Y_ext1 {a b : SV} (hx : oval σ x = .pair a b) : Ylds P η σ ⟨dst, .extract x 1, ty, pos, after, gd⟩ b := by
  refine Ylds.same fun g w ac hi h => ?_
  have h1 := h x (by simp [Op.operands]); rw [hx] at h1
  obtain ⟨u1, u2, hv, h2, h3⟩ := h1
  exact ⟨u2, by simp [execOp, hv, Instr.extract], h3⟩

omit [DecidableEq κ] in
theorem mapRep {g : Gh} {w : World} {id : Nat} {kb : Option Nat} {L : List (κ × D)} (h : ObOk g w id (.map kb (kvs enc L))) : ∃ b es, g.blk id = some b ∧ w.heap[b]? = some (.map es L.length) ∧ es.toList.length = L.length ∧
    (∀ (j : Nat) e p, es.toList[j]? = some e → L[j]? = some p → e.key = enc p.1) ∧ (∀ (j : Nat) e p, es.toList[j]? = some e → L[j]? = some p → e.born = j ∧ RepD g.St w e.val p.2) ∧ ∀ o, ¬ g.St b o := by
  obtain ⟨b, es, h1, h2, h3, h4, h5, _⟩ := h
  rw [kvs_len] at h2 h3
  refine ⟨b, es, h1, h2, by simpa using h3, fun j e p he hp => ?_, fun j e p he hp => ?_, h5⟩
  · exact (h4 j e (enc p.1, p.2) (by simpa using he) (by rw [kvs_get, hp]; rfl)).2.1
  · have := h4 j e (enc p.1, p.2) (by simpa using he) (by rw [kvs_get, hp]; rfl); exact ⟨this.1, this.2.2⟩

theorem look_run {g : Gh} {w : World} {id k e : Nat} {kb : Option Nat} {L : List (κ × D)} {zd : D} (h : ObOk g w id (.map kb (kvs enc L))) (ht : mapTy P t = some (k, e)) (hk : KeyOk P k enc) (hz : zero1 P e = some zd) (a : κ) (c : Bool) :
    ∃ b v, g.blk id = some b ∧ (Instr.lookup t (.map (some b)) (enc a) c).run P w = .ok (if c then .tuple #[v, .bool (lookK L a).isSome] else v) w ∧ RepD g.St w v ((lookK L a).getD zd) := by
  obtain ⟨b, es, h1, h2, h3, h4, h5, _⟩ := mapRep h
  obtain ⟨kind, k1, k2, k3, k4⟩ := hk.ex
  obtain ⟨z, z1, z2⟩ := zero1_run hz
  have hck := MapKept.run_checkKey (w := w) k1 (k2 a) es.isEmpty 9999
  rcases findNow_k k3 a es.toList L 0 h3 h4 with ⟨f1, f2⟩ | ⟨e0, d0, f1, f2, f3⟩
  · refine ⟨b, z, h1, ?_, by rw [f1]; exact z2 _ _⟩
    simp only [Instr.lookup, Sem.run_bind, run_underlying (mapTy_some ht), MapKept.run_getObj_map h2, hck, MapKept.run_findKey k1 f2, z1, f1, Result.andThen, Sem.run_pure]
    cases c <;> rfl
  · have hp := (lookK_some f2).1
    refine ⟨b, e0.val, h1, ?_, by rw [f2]; exact (h5 _ _ _ f1 hp).2⟩
    simp only [Instr.lookup, Sem.run_bind, run_underlying (mapTy_some ht), MapKept.run_getObj_map h2, hck, MapKept.run_findKey k1 f3, f2, Result.andThen, Sem.run_pure]
    cases c <;> rfl

theorem Y_lookK {id k e : Nat} {kb : Option Nat} {L : List (κ × D)} {a : κ} {zd : D} (hx : oval σ x = .mp id) (ho : η[id]? = some (.map kb (kvs enc L))) (hy : oval σ y = .d (.val (enc a))) (ht : mapTy P t = some (k, e)) (hk : KeyOk P k enc) (hz : zero1 P e = some zd) :
    Ylds P η σ ⟨dst, .lookup t x y false, ty, pos, after, gd⟩ (.d ((lookK L a).getD zd)) := by
  refine Ylds.same fun g w ac hi h => ?_
  have h1 := h x (by simp [Op.operands]); rw [hx] at h1
  have h2 := h y (by simp [Op.operands]); rw [hy] at h2
  obtain ⟨_, b, hb, hv⟩ := h1
  obtain ⟨b', v, hb', hr, hd⟩ := look_run (hi.ob id _ ho) ht hk hz a false
  rw [hb] at hb'; injection hb' with hb'; subst hb'
  exact ⟨v, by simp only [execOp, hv, RepD.val_eq h2, Sem.run_bind, hr]; rfl, hd⟩
theorem Y_lookOkK {id k e : Nat} {kb : Option Nat} {L : List (κ × D)} {a : κ} {zd : D} (hx : oval σ x = .mp id) (ho : η[id]? = some (.map kb (kvs enc L))) (hy : oval σ y = .d (.val (enc a))) (ht : mapTy P t = some (k, e)) (hk : KeyOk P k enc) (hz : zero1 P e = some zd) :
    Ylds P η σ ⟨dst, .lookup t x y true, ty, pos, after, gd⟩ (.d (.tup [(lookK L a).getD zd, .val (.bool (lookK L a).isSome)])) := by
  refine Ylds.same fun g w ac hi h => ?_
  have h1 := h x (by simp [Op.operands]); rw [hx] at h1
  have h2 := h y (by simp [Op.operands]); rw [hy] at h2
  obtain ⟨_, b, hb, hv⟩ := h1
  obtain ⟨b', v, hb', hr, hd⟩ := look_run (hi.ob id _ ho) ht hk hz a true
  rw [hb] at hb'; injection hb' with hb'; subst hb'
  refine ⟨.tuple #[v, .bool (lookK L a).isSome], by simp only [execOp, hv, RepD.val_eq h2, Sem.run_bind, hr]; rfl, .tup [_, _] _ rfl fun j u d hu hd' => ?_⟩
  match j with
  | 0 => simp at hu hd'; subst hu; subst hd'; exact hd
  | 1 => simp at hu hd'; subst hu; subst hd'; exact .val _
  | j + 2 => simp at hu
/-- a list of keys that is known -/
theorem Y_lookI {id k e : Nat} {q : IntKind} {kb : Option Nat} {L : List (Int × D)} {a : Int} {zd : D} (hx : oval σ x = .mp id) (ho : η[id]? = some (.map kb (kvs (fun a => .int q a) L))) (hy : oval σ y = .d (.val (.int q a))) (ht : mapTy P t = some (k, e)) (hk : P.underlying k = some (.int q)) (hz : zero1 P e = some zd) :
    Ylds P η σ ⟨dst, .lookup t x y false, ty, pos, after, gd⟩ (.d ((lookK L a).getD zd)) := Y_lookK hx ho hy ht (intKey hk) hz
theorem Y_lookOkI {id k e : Nat} {q : IntKind} {kb : Option Nat} {L : List (Int × D)} {a : Int} {zd : D} (hx : oval σ x = .mp id) (ho : η[id]? = some (.map kb (kvs (fun a => .int q a) L))) (hy : oval σ y = .d (.val (.int q a))) (ht : mapTy P t = some (k, e)) (hk : P.underlying k = some (.int q)) (hz : zero1 P e = some zd) :
    Ylds P η σ ⟨dst, .lookup t x y true, ty, pos, after, gd⟩ (.d (.tup [(lookK L a).getD zd, .val (.bool (lookK L a).isSome)])) := Y_lookOkK hx ho hy ht (intKey hk) hz
theorem Y_lookS {id k e : Nat} {kb : Option Nat} {L : List (List UInt8 × D)} {a : List UInt8} {zd : D} (hx : oval σ x = .mp id) (ho : η[id]? = some (.map kb (kvs (fun l => .string ⟨l.toArray⟩) L))) (hy : oval σ y = .d (str a)) (ht : mapTy P t = some (k, e)) (hk : P.underlying k = some .string) (hz : zero1 P e = some zd) :
    Ylds P η σ ⟨dst, .lookup t x y false, ty, pos, after, gd⟩ (.d ((lookK L a).getD zd)) := Y_lookK hx ho hy ht (strKey hk) hz
theorem Y_lookOkS {id k e : Nat} {kb : Option Nat} {L : List (List UInt8 × D)} {a : List UInt8} {zd : D} (hx : oval σ x = .mp id) (ho : η[id]? = some (.map kb (kvs (fun l => .string ⟨l.toArray⟩) L))) (hy : oval σ y = .d (str a)) (ht : mapTy P t = some (k, e)) (hk : P.underlying k = some .string) (hz : zero1 P e = some zd) :
    Ylds P η σ ⟨dst, .lookup t x y true, ty, pos, after, gd⟩ (.d (.tup [(lookK L a).getD zd, .val (.bool (lookK L a).isSome)])) := Y_lookOkK hx ho hy ht (strKey hk) hz
theorem Y_lenM {id k e : Nat} {kb : Option Nat} {l : List (Value × D)} (hx : oval σ x = .mp id) (ho : η[id]? = some (.map kb l)) (ht : mapTy P t = some (k, e)) : Ylds P η σ ⟨dst, .call ⟨.builtin .len, #[x], #[t]⟩, ty, pos, after, gd⟩ (.d (.val (.int .i64 (l.length : Int)))) := by
  refine Ylds.same fun g w a hi h => ⟨.int .i64 (l.length : Int), ?_, .val _⟩
  have h1 := h x (by simp [Op.operands, Call.operands]); rw [hx] at h1
  obtain ⟨_, b, hb, hv⟩ := h1
  obtain ⟨b', es, h2, h3, h4, _⟩ := hi.ob id _ ho
  rw [hb] at h2; injection h2 with h2; subst h2
  simp [execOp, resolve, invoke, builtin, Builtin.len_, run_underlying (mapTy_some ht), hv, MapKept.run_getObj_map h3, goInt, h4]
end

/-! ### made, written -/
section
variable {C : Ctx} {ops : Array Oper} {rest : List Oper} {K : Sl → List Ob → Prop} {σ : Sl} {η : List Ob} {d : Nat} {ty : TypeId} {pos : String} {after : Array Edge} {gd : Option (Nat × Bool)} {t : TypeId} {x y z : Operand}

/-- AN OBJECT IN A BLOCK OF ITS OWN TURNS: nothing stable lay there. -/
theorem AbsG.setObj {g : Gh} {a : Act} {w w' : World} (h : AbsG C g σ η a w) {id b : Nat} {o : Ob} (hidl : id < η.length) (hb : g.blk id = some b) (hro : C.ro ≤ id) (hst : ∀ o, ¬ g.St b o)
    (os : w'.os = w.os) (tape : w'.tape = w.tape) (output : w'.output = w.output) (hsz : w'.heap.size = w.heap.size) (hoth : ∀ k, k ≠ b → w'.heap[k]? = w.heap[k]?)
    (ok : Keep g.St w g.St w' → ObOk g w' id o) : AbsG C g σ (η.set id o) a w' := by
  have kp : Keep g.St w g.St w' := ⟨fun _ _ h => h, fun c o u hc hu => (World.cell?_of_block (a := ⟨c, o, none⟩) (hoth c (fun e => hst o (e ▸ hc)))).trans hu, fun c hc => hoth c (fun e => hst 0 (e ▸ hc 0))⟩
  have rk : ∀ {v : Value} {s' : SV}, RepS g w v s' → RepS g w' v s' := fun r => r.ext kp (fun _ _ => ⟨rfl, rfl, rfl⟩) (Nat.le_refl _)
  refine ⟨h.defers, h.size, ⟨by rw [List.length_set]; exact h.inv.n, fun i c hc => by rw [hsz]; exact h.inv.lt i c hc, h.inv.dead, h.inv.inj, fun i o' ho => ?_, fun c o hc => by rw [hsz]; exact h.inv.st c o hc, h.inv.gl.keep kp⟩, os.trans h.os, tape.trans h.tape, output.trans h.output, by rw [hsz]; exact h.wsize,
    fun k hk hx => ?_, h.keep.trans kp, h.new, h.own, fun t => rk (h.rep t)⟩
  · rw [List.getElem?_set] at ho
    split at ho
    · rename_i hc; subst hc
      try rw [if_pos hidl] at ho
      injection ho with ho; subst ho
      exact ok kp
    · rename_i hc
      refine (h.inv.ob i o' ho).ext kp (fun _ _ => ⟨rfl, rfl, rfl⟩) (Nat.le_refl _) (by rw [h.inv.n]; exact (List.getElem?_eq_some_iff.1 ho).1) (fun c hcb => ⟨hoth c (fun e => ?_), fun _ => Iff.rfl⟩)
      subst e
      exact hc (h.inv.inj id i c hb hcb)
  · rw [hoth k (fun e => ?_)]
    · exact h.heap k hk hx
    · subst e
      rcases h.own id k hb hro with h2 | h2
      · omega
      · exact hx h2

/-- a new object, and a slot that names it -/
theorem AbsG.allocOb {g : Gh} {a : Act} {w : World} (ha : AbsG C g σ η a w) (ob : Obj) (o : Ob) (s : SV) (v : Value) (hd : Nat.blt d C.N = true) (hro : C.ro ≤ η.length)
    (ok : ∀ g' : Gh, g'.n = g.n + 1 → g'.blk g.n = some w.heap.size → (∀ id, id < g.n → g'.blk id = g.blk id) → g'.St = g.St → (∀ o, ¬ g'.St w.heap.size o) → ObOk g' (w.alloc ob) g.n o ∧ RepS g' (w.alloc ob) v s) :
    Abs C ((d, s) :: σ) (η ++ [o]) (a.put (some d) v) (w.alloc ob) := by
  have hn := ha.inv.n
  let g' : Gh := { g with blk := upd g.blk g.n (some w.heap.size), n := g.n + 1 }
  have hold : ∀ id, id < g.n → g'.blk id = g.blk id ∧ g'.cap id = g.cap id ∧ g'.sz id = g.sz id := fun id hid => ⟨by simp [g', upd, Nat.ne_of_lt hid], rfl, rfl⟩
  have hbn : g'.blk g.n = some w.heap.size := by simp [g', upd]
  obtain ⟨ok1, ok2⟩ := ok g' rfl hbn (fun id hid => (hold id hid).1) rfl (fun o ho => absurd (ha.inv.st _ o ho) (by omega))
  have hab := ha.newOb (g' := g') (w' := w.alloc ob) o rfl rfl rfl (by simp) (fun k hk => Below.heap_alloc w _ k hk) rfl hold
    (fun id hid => by
      have hne : id ≠ g.n := by omega
      simp only [g', upd, if_neg hne]
      exact ha.inv.dead id (by omega)) (fun b hb => by rw [hbn] at hb; injection hb with hb; subst hb; simp) (fun _ _ h => h) (fun _ _ h => .inl h) (fun b o hb => Nat.lt_of_lt_of_le (ha.inv.st b o hb) (by simp)) (by rw [hn]; exact hro) ok1
  exact ⟨g', hab.put (d := some d) hd ok2⟩

theorem absMap {g : Gh} {a : Act} {w : World} (ha : AbsG C g σ η a w) (hd : Nat.blt d C.N = true) (hro : C.ro ≤ η.length) :
    Abs C ((d, .mp η.length) :: σ) (η ++ [.map none []]) (a.put (some d) (.map (some w.heap.size))) (w.alloc (.map #[] 0)) :=
  ha.allocOb _ _ _ _ hd hro fun g' hn hb _ _ hst => ⟨⟨w.heap.size, #[], hb, _root_.Go.heap_alloc_new w _, rfl, fun j e p he => by simp at he, hst, fun _ h => (by cases h)⟩, by show η.length < g'.n; rw [hn, ha.inv.n]; omega, w.heap.size, by rw [← ha.inv.n]; exact hb, rfl⟩
theorem aMakeMap {κ : Type} (enc : κ → Value) (hd : Nat.blt d C.N = true) (hro : Nat.ble C.ro η.length = true) (h : alex C false ops rest K ((d, .mp η.length) :: σ) (η ++ [.map none (kvs enc [])])) :
    astep C false ops ⟨some d, .makeMap t none, ty, pos, after, gd⟩ rest K σ η :=
  estep (fun _ _ _ ha => ⟨_, _, rfl, absMap ha hd (Nat.le_of_ble_eq_true hro)⟩) h
theorem aMakeMapI {k e : Nat} {q : IntKind} (_ht : mapTy C.P t = some (k, e)) (_hk : C.P.underlying k = some (.int q)) (hd : Nat.blt d C.N = true) (hro : Nat.ble C.ro η.length = true) (h : alex C false ops rest K ((d, .mp η.length) :: σ) (η ++ [.map none (kvs (fun a => .int q a) [])])) :
    astep C false ops ⟨some d, .makeMap t none, ty, pos, after, gd⟩ rest K σ η := aMakeMap _ hd hro h
theorem aMakeMapS {k e : Nat} (_ht : mapTy C.P t = some (k, e)) (_hk : C.P.underlying k = some .string) (hd : Nat.blt d C.N = true) (hro : Nat.ble C.ro η.length = true) (h : alex C false ops rest K ((d, .mp η.length) :: σ) (η ++ [.map none (kvs (fun l : List UInt8 => .string ⟨l.toArray⟩) [])])) :
    astep C false ops ⟨some d, .makeMap t none, ty, pos, after, gd⟩ rest K σ η := aMakeMap _ hd hro h

section
variable {κ : Type} [DecidableEq κ] {enc : κ → Value}
omit [DecidableEq κ] in
/-- the map's block is written -/
theorem AbsG.setMap {g : Gh} {a : Act} {w : World} (ha : AbsG C g σ η a w) {id b : Nat} {kb : Option Nat} {L L' : List (κ × D)} {es' : Array MapEntry} (ho : η[id]? = some (.map kb (kvs enc L))) (hb : g.blk id = some b) (hro : C.ro ≤ id)
    (hsz : es'.size = L'.length) (hes : ∀ (j : Nat) e p, es'[j]? = some e → L'[j]? = some p → e.born = j ∧ e.key = enc p.1 ∧ RepD g.St w e.val p.2) :
    AbsG C g σ (η.set id (.map kb (kvs enc L'))) a { w with heap := w.heap.setIfInBounds b (.map es' L'.length) } := by
  obtain ⟨b', es, h1, h2, h3, h4, h5, h6⟩ := ha.inv.ob id _ ho
  rw [hb] at h1; injection h1 with h1; subst h1
  have hbl := ha.inv.lt id b hb
  refine ha.setObj (List.getElem?_eq_some_iff.1 ho).1 hb hro h5 rfl rfl rfl (by simp) (fun k hk => by simp [Array.getElem?_setIfInBounds_ne (fun e => hk e.symm)]) fun kp => ⟨b, es', hb, by rw [kvs_len]; simp [hbl], by rw [kvs_len]; exact hsz, fun j e p he hp => ?_, h5, h6⟩
  rw [kvs_get] at hp
  cases hq : L'[j]? with
  | none => simp [hq] at hp
  | some p0 =>
    simp [hq] at hp; subst hp
    obtain ⟨q1, q2, q3⟩ := hes j e p0 he hq
    exact ⟨q1, q2, q3.keep kp⟩

theorem run_stays {P : Program} {w : World} {v : Value} (h : Instr.sameBits 10000 v v = true) : (Instr.keyThatStays v v).run P w = .ok v w := by
  simp [Instr.keyThatStays, h]

theorem aMapPut {id k e : Nat} {kb : Option Nat} {L : List (κ × D)} {a : κ} {dv : D} (hx : oval σ x = .mp id) (ho : η[id]? = some (.map kb (kvs enc L))) (hy : oval σ y = .d (.val (enc a))) (hz : Co η (oval σ z) dv) (ht : mapTy C.P t = some (k, e)) (hk : KeyOk C.P k enc) (hro : Nat.ble C.ro id = true)
    (h : alex C false ops rest K σ (η.set id (.map kb (kvs enc (putK L a dv))))) : astep C false ops ⟨none, .mapUpdate t x y z, ty, pos, after, gd⟩ rest K σ η := by
  refine estep0 (fun g ac w ha => ?_) h
  have h1 := ha.eval x; rw [hx] at h1
  have h2 := ha.eval y; rw [hy] at h2
  have hzr := hz.rep ha.inv (ha.eval z)
  obtain ⟨_, b, hb, hv⟩ := h1
  obtain ⟨b', es, m1, m2, m3, m4, m5, m6⟩ := mapRep (ha.inv.ob id _ ho)
  rw [hb] at m1; injection m1 with m1; subst m1
  obtain ⟨kind, k1, k2, k3, k4⟩ := hk.ex
  have hck := MapKept.run_checkKey (w := w) k1 (k2 a) false 9999
  have m3' : es.size = L.length := by simpa using m3
  rcases findNow_k k3 a es.toList L 0 m3 m4 with ⟨f1, f2⟩ | ⟨e0, d0, f1, f2, f3⟩
  · obtain ⟨q1, q2, q3⟩ := lookK_none f1
    have hset := ha.setMap (L' := L ++ [(a, dv)]) (es' := es.push { key := enc a, val := ac.eval z, born := L.length }) ho hb (Nat.le_of_ble_eq_true hro) (by simp [m3']) (fun j e p he hp => by
      rw [Array.getElem?_push] at he
      split at he
      · rename_i hj
        injection he with he; subst he
        rw [hj, m3', List.getElem?_append_right (Nat.le_refl _)] at hp
        simp at hp; subst hp
        exact ⟨hj.trans m3' |>.symm, rfl, hzr⟩
      · rename_i hj
        have hjl : j < L.length := by have := (Array.getElem?_eq_some_iff.1 he).1; omega
        rw [List.getElem?_append_left hjl] at hp
        have he' : es.toList[j]? = some e := by simpa using he
        exact ⟨(m5 j e p he' hp).1, m4 j e p he' hp, (m5 j e p he' hp).2⟩)
    refine ⟨_, ?_, g, by rw [q2]; exact hset⟩
    rw [List.length_append]
    simp only [execOp, hv, RepD.val_eq h2, Sem.run_bind, Instr.mapUpdate, run_underlying (mapTy_some ht), MapKept.run_getObj_map m2, hck, MapKept.run_findKey k1 f2, MapKept.run_setObj_map _ m2, Result.andThen, Sem.run_pure]
    rfl
  · obtain ⟨q1, q2⟩ := lookK_some f2
    have hil : idxK L a < L.length := (List.getElem?_eq_some_iff.1 q1).1
    have hkey : e0.key = enc a := m4 _ _ _ f1 q1
    have f1' : es[idxK L a]? = some e0 := by simpa using f1
    have hset := ha.setMap (L' := L.set (idxK L a) (a, dv)) (es' := es.modify (idxK L a) fun e => { e with key := enc a, val := ac.eval z }) ho hb (Nat.le_of_ble_eq_true hro) (by simp [m3']) (fun j e p he hp => by
      rw [Array.getElem?_modify] at he
      rw [List.getElem?_set] at hp
      split at he
      · rename_i hj
        subst hj
        rw [if_pos rfl, if_pos hil] at hp
        rw [f1'] at he
        simp at he hp; subst he; subst hp
        exact ⟨(m5 _ _ _ f1 q1).1, rfl, hzr⟩
      · rename_i hj
        rw [if_neg hj] at hp
        have he' : es.toList[j]? = some e := by simpa using he
        exact ⟨(m5 j e p he' hp).1, m4 j e p he' hp, (m5 j e p he' hp).2⟩)
    refine ⟨_, ?_, g, by rw [q2]; exact hset⟩
    rw [List.length_set]
    rw [Nat.zero_add] at f3
    have hst : (Instr.keyThatStays (((es[idxK L a]?).map (·.key)).getD (enc a)) (enc a)).run C.P w = .ok (enc a) w := by
      rw [f1']; simp only [Option.map_some, Option.getD_some, hkey]; exact run_stays (k4 a)
    simp only [execOp, hv, RepD.val_eq h2, Sem.run_bind, Instr.mapUpdate, run_underlying (mapTy_some ht), MapKept.run_getObj_map m2, hck, MapKept.run_findKey k1 f3, hst, MapKept.run_setObj_map _ m2, Result.andThen, Sem.run_pure]

/-- 'm[k] op= ..': the entry is there from now on; its stamp is its place -/
theorem aMapEntry {id k e : Nat} {kb : Option Nat} {L : List (κ × D)} {a : κ} {zd : D} (hx : oval σ x = .mp id) (ho : η[id]? = some (.map kb (kvs enc L))) (hy : oval σ y = .d (.val (enc a))) (ht : mapTy C.P t = some (k, e)) (hk : KeyOk C.P k enc) (hz : zero1 C.P e = some zd) (hd : Nat.blt d C.N = true) (hro : Nat.ble C.ro id = true)
    (h : alex C false ops rest K ((d, .d (.tup [(lookK L a).getD zd, .val (.int .i64 (idxK L a : Int))])) :: σ) (η.set id (.map kb (kvs enc (putK L a ((lookK L a).getD zd)))))) : astep C false ops ⟨some d, .mapEntry t x y, ty, pos, after, gd⟩ rest K σ η := by
  refine estep (fun g ac w ha => ?_) h
  have h1 := ha.eval x; rw [hx] at h1
  have h2 := ha.eval y; rw [hy] at h2
  obtain ⟨_, b, hb, hv⟩ := h1
  obtain ⟨b', es, m1, m2, m3, m4, m5, m6⟩ := mapRep (ha.inv.ob id _ ho)
  rw [hb] at m1; injection m1 with m1; subst m1
  obtain ⟨kind, k1, k2, k3, k4⟩ := hk.ex
  obtain ⟨z, z1, z2⟩ := zero1_run hz
  have hck := MapKept.run_checkKey (w := w) k1 (k2 a) false 9999
  have m3' : es.size = L.length := by simpa using m3
  have tup2 : ∀ {St : Stab} {w' : World} {v : Value} {d1 : D} {n : Int}, RepD St w' v d1 → RepD St w' (.tuple #[v, goInt n]) (.tup [d1, .val (.int .i64 n)]) := fun hr => .tup [_, _] _ rfl fun j u d' hu hd' => by
    match j with
    | 0 => simp at hu hd'; subst hu; subst hd'; exact hr
    | 1 => simp at hu hd'; subst hu; subst hd'; exact .val _
    | j + 2 => simp at hu
  rcases findNow_k k3 a es.toList L 0 m3 m4 with ⟨f1, f2⟩ | ⟨e0, d0, f1, f2, f3⟩
  · obtain ⟨q1, q2, q3⟩ := lookK_none f1
    have hset := ha.setMap (L' := L ++ [(a, zd)]) (es' := es.push { key := enc a, val := z, born := L.length }) ho hb (Nat.le_of_ble_eq_true hro) (by simp [m3']) (fun j e p he hp => by
      rw [Array.getElem?_push] at he
      split at he
      · rename_i hj
        injection he with he; subst he
        rw [hj, m3', List.getElem?_append_right (Nat.le_refl _)] at hp
        simp at hp; subst hp
        exact ⟨hj.trans m3' |>.symm, rfl, z2 _ _⟩
      · rename_i hj
        have hjl : j < L.length := by have := (Array.getElem?_eq_some_iff.1 he).1; omega
        rw [List.getElem?_append_left hjl] at hp
        have he' : es.toList[j]? = some e := by simpa using he
        exact ⟨(m5 j e p he' hp).1, m4 j e p he' hp, (m5 j e p he' hp).2⟩)
    rw [f1, q2, q3, Option.getD_none]
    refine ⟨_, _, ?_, g, hset.put (d := some d) hd (tup2 (z2 _ _))⟩
    rw [List.length_append]
    simp only [execOp, hv, RepD.val_eq h2, Sem.run_bind, Instr.mapEntry, run_underlying (mapTy_some ht), MapKept.run_getObj_map m2, hck, MapKept.run_findKey k1 f2, z1, MapKept.run_setObj_map _ m2, Result.andThen, Sem.run_pure]
    rfl
  · obtain ⟨q1, q2⟩ := lookK_some f2
    have hil : idxK L a < L.length := (List.getElem?_eq_some_iff.1 q1).1
    have hkey : e0.key = enc a := m4 _ _ _ f1 q1
    have f1' : es[idxK L a]? = some e0 := by simpa using f1
    have hset := ha.setMap (L' := L.set (idxK L a) (a, d0)) (es' := es.modify (idxK L a) fun e => { e with key := enc a }) ho hb (Nat.le_of_ble_eq_true hro) (by simp [m3']) (fun j e p he hp => by
      rw [Array.getElem?_modify] at he
      rw [List.getElem?_set] at hp
      split at he
      · rename_i hj
        subst hj
        rw [if_pos rfl, if_pos hil] at hp
        rw [f1'] at he
        simp at he hp; subst he; subst hp
        exact ⟨(m5 _ _ _ f1 q1).1, rfl, (m5 _ _ _ f1 q1).2⟩
      · rename_i hj
        rw [if_neg hj] at hp
        have he' : es.toList[j]? = some e := by simpa using he
        exact ⟨(m5 j e p he' hp).1, m4 j e p he' hp, (m5 j e p he' hp).2⟩)
    rw [f2, q2, Option.getD_some]
    have hborn := (m5 _ _ _ f1 q1).1
    refine ⟨.tuple #[e0.val, goInt (idxK L a : Int)], _, ?_, g, hset.put (d := some d) hd (tup2 (((m5 _ _ _ f1 q1).2).keep ?_))⟩
    · rw [List.length_set]
      rw [Nat.zero_add] at f3
      have hst : (Instr.keyThatStays (((es[idxK L a]?).map (·.key)).getD (enc a)) (enc a)).run C.P w = .ok (enc a) w := by
        rw [f1']; simp only [Option.map_some, Option.getD_some, hkey]; exact run_stays (k4 a)
      simp only [execOp, hv, RepD.val_eq h2, Sem.run_bind, Instr.mapEntry, run_underlying (mapTy_some ht), MapKept.run_getObj_map m2, hck, MapKept.run_findKey k1 f3, hst, MapKept.run_setObj_map _ m2, Result.andThen, Sem.run_pure]
      rw [f1']
      simp only [Option.map_some, Option.getD_some, hborn]
    · refine ⟨fun _ _ h => h, fun c o u hc hu => ?_, fun c hc => ?_⟩
      · refine (World.cell?_of_block (a := ⟨c, o, none⟩) ?_).trans hu
        have hne : c ≠ b := fun e => by subst e; exact m6 o hc
        exact Array.getElem?_setIfInBounds_ne hne.symm
      · have hne : c ≠ b := fun e => by subst e; exact m6 0 (hc 0)
        exact Array.getElem?_setIfInBounds_ne hne.symm

/-- the entry of that stamp is written -/
theorem aEntryStore {id k e : Nat} {kb : Option Nat} {L : List (κ × D)} {a : κ} {d0 dv : D} (hx : oval σ x = .mp id) (ho : η[id]? = some (.map kb (kvs enc (putK L a d0)))) (hy : oval σ y = .d (.val (.int .i64 (idxK L a : Int)))) (hz : Co η (oval σ z) dv) (_ht : mapTy C.P t = some (k, e)) (hro : Nat.ble C.ro id = true)
    (h : alex C false ops rest K σ (η.set id (.map kb (kvs enc (putK L a dv))))) : astep C false ops ⟨none, .entryStore t x y z, ty, pos, after, gd⟩ rest K σ η := by
  refine estep0 (fun g ac w ha => ?_) h
  have h1 := ha.eval x; rw [hx] at h1
  have h2 := ha.eval y; rw [hy] at h2
  have hzr := hz.rep ha.inv (ha.eval z)
  obtain ⟨_, b, hb, hv⟩ := h1
  obtain ⟨b', es, m1, m2, m3, m4, m5, m6⟩ := mapRep (ha.inv.ob id _ ho)
  rw [hb] at m1; injection m1 with m1; subst m1
  have m3' : es.size = (putK L a d0).length := by simpa using m3
  have hlk : lookK (putK L a d0) a = some d0 := by rw [lookK_put, if_pos rfl]
  obtain ⟨q1, q2⟩ := lookK_some hlk
  rw [idxK_put] at q1 q2
  have hil : idxK L a < (putK L a d0).length := (List.getElem?_eq_some_iff.1 q1).1
  have hie : idxK L a < es.size := by omega
  have hfind : es.findIdx? (fun e => (e.born : Int) == (idxK L a : Int)) = some (idxK L a) := by
    rw [Array.findIdx?_eq_some_iff_getElem]
    have hborn : ∀ j (hj : j < es.size), es[j].born = j := fun j hj => by
      have hjl : j < (putK L a d0).length := by omega
      exact (m5 j es[j] ((putK L a d0)[j]) (by simp [hj]) (List.getElem?_eq_getElem hjl)).1
    refine ⟨hie, by simp [hborn _ hie], fun j hj => ?_⟩
    have := hborn j (by omega)
    simp [this]; omega
  have hset := ha.setMap (L' := (putK L a d0).set (idxK L a) (a, dv)) (es' := es.modify (idxK L a) fun e => { e with val := ac.eval z }) ho hb (Nat.le_of_ble_eq_true hro) (by simp [m3']) (fun j e p he hp => by
    rw [Array.getElem?_modify] at he
    rw [List.getElem?_set] at hp
    split at he
    · rename_i hj
      subst hj
      rw [if_pos rfl, if_pos hil] at hp
      have he0 : es[idxK L a]? = some es[idxK L a] := Array.getElem?_eq_getElem hie
      rw [he0] at he
      simp at he hp; subst he; subst hp
      have he1 : es.toList[idxK L a]? = some es[idxK L a] := by simp
      have hk1 := m4 _ _ _ he1 q1
      exact ⟨(m5 _ _ _ he1 q1).1, hk1, hzr⟩
    · rename_i hj
      rw [if_neg hj] at hp
      have he' : es.toList[j]? = some e := by simpa using he
      exact ⟨(m5 j e p he' hp).1, m4 j e p he' hp, (m5 j e p he' hp).2⟩)
  refine ⟨_, ?_, g, by rw [← putK_put L a d0 dv, q2]; exact hset⟩
  rw [List.length_set]
  simp only [execOp, hv, RepD.val_eq h2, Sem.run_bind, Instr.entryStore, asInt, asIntOf, MapKept.run_getObj_map m2, Result.andThen, Sem.run_pure, hfind, MapKept.run_setObj_map _ m2]

/-! ### gone through -/
omit [DecidableEq κ] in
theorem aRangeM {id k e : Nat} {kb : Option Nat} {L : List (κ × D)} (hx : oval σ x = .mp id) (ho : η[id]? = some (.map kb (kvs enc L))) (ht : mapTy C.P t = some (k, e)) (hd : Nat.blt d C.N = true) (hro : Nat.ble C.ro η.length = true)
    (h : alex C false ops rest K ((d, .ptr η.length 0) :: σ) (η ++ [.miter id L.length [] L.length])) : astep C false ops ⟨some d, .range t x, ty, pos, after, gd⟩ rest K σ η := by
  refine estep (fun g a w ha => ?_) h
  have h1 := ha.eval x; rw [hx] at h1
  obtain ⟨hidn, b, hb, hv⟩ := h1
  obtain ⟨b', es, m1, m2, m3, m4, m5, m6⟩ := mapRep (ha.inv.ob id _ ho)
  rw [hb] at m1; injection m1 with m1; subst m1
  refine ⟨_, _, ?_, ha.allocOb (.mapIter (some b) L.length #[] L.length) _ _ (.pointer (some ⟨w.heap.size, 0, none⟩)) hd (Nat.le_of_ble_eq_true hro) fun g' hn hbn hold hSt hst => ⟨⟨w.heap.size, b, hbn, by rw [hn]; omega, by rw [hold id hidn]; exact hb, _root_.Go.heap_alloc_new w _, hst⟩, by show η.length < g'.n; rw [hn, ha.inv.n]; omega, w.heap.size, by rw [← ha.inv.n]; exact hbn, rfl⟩⟩
  simp only [execOp, hv, Sem.run_bind, run_range_map w t k e b es L.length (mapTy_some ht) m2, Result.andThen, Sem.run_pure]

omit [DecidableEq κ] in
/-- the next entry, whichever it is, or none -/
theorem aNextM {it id since st : Nat} {seen : List Nat} {kb : Option Nat} {L : List (κ × D)} (hx : oval σ x = .ptr it 0) (hit : η[it]? = some (.miter id since seen st)) (ho : η[id]? = some (.map kb (kvs enc L))) (hsn : since = L.length) (hst : st = L.length) (hd : Nat.blt d C.N = true) (hro : Nat.ble C.ro it = true)
    (h1 : ∀ (j : Nat) (k : κ) (v : D), L[j]? = some (k, v) → j ∉ seen → alex C false ops rest K ((d, .d (.tup [.val (.bool true), .val (enc k), v])) :: σ) (η.set it (.miter id since (seen ++ [j]) L.length)))
    (h2 : (∀ j, j < L.length → j ∈ seen) → alex C false ops rest K ((d, .d (.tup [.val (.bool false)])) :: σ) η) : astep C false ops ⟨some d, .next x false, ty, pos, after, gd⟩ rest K σ η := by
  subst hsn; subst hst
  intro Q hQ a w ⟨g, ha⟩ K' hK'
  have hp := ha.eval x; rw [hx] at hp
  obtain ⟨hidn, r, hr, hv⟩ := hp
  obtain ⟨r', bm, i1, i2, i3, i4, i5⟩ := ha.inv.ob it _ hit
  rw [hr] at i1; injection i1 with i1; subst i1
  obtain ⟨b', es, m1, m2, m3, m4, m5, m6⟩ := mapRep (ha.inv.ob id _ ho)
  rw [i3] at m1; injection m1 with m1; subst m1
  have m3' : es.size = L.length := by simpa using m3
  have hborn : ∀ j (hj : j < es.size), es[j].born = j := fun j hj => by
    have hjl : j < L.length := by omega
    exact (m5 j es[j] L[j] (by simp [hj]) (List.getElem?_eq_getElem hjl)).1
  have hall : ∀ e ∈ es.toList, e.born < L.length := fun e he => by
    obtain ⟨j, hj, rfl⟩ := List.mem_iff_getElem.1 he
    rw [Array.length_toList] at hj
    rw [Array.getElem_toList, hborn j hj]; omega
  unfold Oper.wp
  rcases run_next_at (P := C.P) w ty r bm L.length L.length seen.toArray es L.length i4 m2 hall (Nat.le_refl _) with ⟨n1, n2⟩ | ⟨e, n1, w1, n2, n3⟩
  · have hrun : (execOp a.eval ⟨some d, .next x false, ty, pos, after, gd⟩).run C.P w = .ok (.value (.tuple #[.bool false])) w := by
      simp only [execOp, hv, Sem.run_bind, n2, Result.andThen, Sem.run_pure]
    rw [hrun]
    refine hK' _ _ (h2 (fun j hj => ?_) Q hQ _ _ ⟨g, ha.put (d := some d) hd (.tup [_] _ rfl fun j u d' hu hd' => ?_)⟩)
    · have hje : j < es.size := by omega
      cases hc : decide (j ∈ seen) with
      | true => exact of_decide_eq_true hc
      | false =>
        exfalso
        have hm : es[j] ∈ leftOf es seen.toArray := by
          unfold leftOf
          rw [Array.mem_filter]
          refine ⟨Array.getElem_mem hje, ?_⟩
          rw [hborn j hje]
          have : j ∉ seen := of_decide_eq_false hc
          simpa using this
        have : leftOf es seen.toArray = #[] := Array.eq_empty_of_size_eq_zero n1
        rw [this] at hm
        simp at hm
    · match j with
      | 0 => simp at hu hd'; subst hu; subst hd'; exact .val _
      | j + 1 => simp at hu
  · obtain ⟨n4, n5⟩ := mem_left n1
    obtain ⟨j, hj, hje⟩ := List.mem_iff_getElem.1 n4
    rw [Array.length_toList] at hj
    rw [Array.getElem_toList] at hje
    subst hje
    have hjl : j < L.length := by omega
    have hLj : L[j]? = some L[j] := List.getElem?_eq_getElem hjl
    have hej : es.toList[j]? = some es[j] := by simp [hj]
    rw [hborn j hj] at n3 n5
    have hrun : (execOp a.eval ⟨some d, .next x false, ty, pos, after, gd⟩).run C.P w = .ok (.value (.tuple #[.bool true, es[j].key, es[j].val])) (ChangeMaps.setBlock w1 r (.mapIter (some bm) L.length (seen.toArray.push j) L.length)) := by
      simp only [execOp, hv, Sem.run_bind, n3, Result.andThen, Sem.run_pure]
    rw [hrun]
    have hw1 : w1.os = w.os ∧ w1.tape = w.tape ∧ w1.output = w.output ∧ w1.heap = w.heap := by
      rcases n2 with rfl | rfl <;> exact ⟨rfl, rfl, rfl, rfl⟩
    have hrl := ha.inv.lt it r hr
    have hset := ha.setObj (w' := ChangeMaps.setBlock w1 r (.mapIter (some bm) L.length (seen.toArray.push j) L.length)) (o := .miter id L.length (seen ++ [j]) L.length) (List.getElem?_eq_some_iff.1 hit).1 hr (Nat.le_of_ble_eq_true hro) i5
      (by simp [ChangeMaps.setBlock, hw1]) (by simp [ChangeMaps.setBlock, hw1]) (by simp [ChangeMaps.setBlock, hw1]) (by simp [ChangeMaps.setBlock, hw1]) (fun k hk => by simp [ChangeMaps.setBlock, hw1, Array.getElem?_setIfInBounds_ne (fun e => hk e.symm)])
      (fun kp => ⟨r, bm, hr, i2, i3, by simp [ChangeMaps.setBlock, hw1, hrl], i5⟩)
    have kp : Keep g.St w g.St (ChangeMaps.setBlock w1 r (.mapIter (some bm) L.length (seen.toArray.push j) L.length)) := by
      refine ⟨fun _ _ h => h, fun c o u hc hu => (World.cell?_of_block (a := ⟨c, o, none⟩) ?_).trans hu, fun c hc => ?_⟩
      · have hne : c ≠ r := fun e => by subst e; exact i5 o hc
        simp only [ChangeMaps.setBlock, hw1]
        exact Array.getElem?_setIfInBounds_ne hne.symm
      · have hne : c ≠ r := fun e => by subst e; exact i5 0 (hc 0)
        simp only [ChangeMaps.setBlock, hw1]
        exact Array.getElem?_setIfInBounds_ne hne.symm
    refine hK' _ _ (h1 j L[j].1 L[j].2 hLj (by simpa using n5) Q hQ _ _ ⟨g, hset.put (d := some d) hd (.tup [_, _, _] _ rfl fun i u d' hu hd' => ?_)⟩)
    match i with
    | 0 => simp at hu hd'; subst hu; subst hd'; exact .val _
    | 1 =>
      simp at hu hd'; subst hu; subst hd'
      rw [m4 j _ _ hej hLj]; exact .val _
    | 2 =>
      simp at hu hd'; subst hu; subst hd'
      exact ((m5 j _ _ hej hLj).2).keep kp
    | i + 3 => simp at hu
end

/-- the entry that the last step handed out -/
theorem Y_entry {P : Program} {dst : Option Nat} {κ : Type} [DecidableEq κ] {enc : κ → Value} {it id since st j : Nat} {seen : List Nat} {kb : Option Nat} {L : List (κ × D)} {k : κ} {v : D} (hx : oval σ x = .ptr it 0) (hit : η[it]? = some (.miter id since (seen ++ [j]) st)) (ho : η[id]? = some (.map kb (kvs enc L))) (hst : st = L.length) (hj : L[j]? = some (k, v)) :
    Ylds P η σ ⟨dst, .entry x, ty, pos, after, gd⟩ (.d (.tup [.val (enc k), v])) := by
  subst hst
  refine Ylds.same fun g w a hi h => ?_
  have hp := h x (by simp [Op.operands]); rw [hx] at hp
  obtain ⟨hidn, r, hr, hv⟩ := hp
  obtain ⟨r', bm, i1, i2, i3, i4, i5⟩ := hi.ob it _ hit
  rw [hr] at i1; injection i1 with i1; subst i1
  obtain ⟨b', es, m1, m2, m3, m4, m5, m6⟩ := mapRep (hi.ob id _ ho)
  rw [i3] at m1; injection m1 with m1; subst m1
  have m3' : es.size = L.length := by simpa using m3
  have hjl : j < L.length := (List.getElem?_eq_some_iff.1 hj).1
  have hjs : j < es.size := by omega
  have hej : es.toList[j]? = some es[j] := by simp [hjs]
  have hb := (m5 j _ _ hej hj).1
  have hnd : (es.toList.map (·.born)).Nodup := by
    have he : es.toList.map (·.born) = List.range es.size := by
      refine List.ext_getElem? fun i => ?_
      rw [List.getElem?_map]
      rcases Nat.lt_or_ge i es.size with hi' | hi'
      · have hil : i < L.length := by omega
        have : es.toList[i]? = some es[i] := by simp [hi']
        rw [this, List.getElem?_range hi', Option.map_some, (m5 i _ L[i] this (List.getElem?_eq_getElem hil)).1]
      · rw [List.getElem?_eq_none (by simpa using hi'), List.getElem?_eq_none (by simpa using hi')]; rfl
    rw [he]; exact List.nodup_range
  have hr' : w.heap[r]? = some (.mapIter (some bm) since (seen.toArray.push es[j].born) L.length) := by rw [hb, i4]; simp
  refine ⟨.tuple #[es[j].key, es[j].val], ?_, .tup [_, _] _ rfl fun i u d' hu hd' => ?_⟩
  · simp only [execOp, hv, Sem.run_bind, run_entry_at w r bm since seen.toArray es L.length es[j] hr' m2 (by simp) hnd, Result.andThen, Sem.run_pure]
  · match i with
    | 0 =>
      simp at hu hd'; subst hu; subst hd'
      rw [m4 j _ _ hej hj]; exact .val _
    | 1 =>
      simp at hu hd'; subst hu; subst hd'
      exact (m5 j _ _ hej hj).2
    | i + 2 => simp at hu
end
end Go.Sx
/- The engine: regions that draw their order, in which variables are made, or one operation turns objects that the others don't look at. -/
namespace Go.Sx
open Go.RowKit

/-- is f closed under what must have come up? -/
def Closed (l : List Oper) (f : Nat → Bool) : Prop := ∀ j o, l[j]? = some o → f j = true → ∀ e ∈ o.after, Region.binds .any e = true → f e.on = true
def Deps (o : Oper) (f : Nat → Bool) : Prop := ∀ e ∈ o.after, Region.binds .any e = true → f e.on = true

/-- A region's first m operations, in whatever order: an invariant I of what has come up; behind them the rest. -/
theorem wp_seg {C : Ctx} {l : List Oper} {Q : Exit → Act → World → Prop} {K : Sl → List Ob → Prop} (hQ : ∀ σ' η' a w, K σ' η' → Abs C σ' η' a w → Q .normal a w) (hB : drawOk l = true)
    (m : Nat) (hm : m ≤ l.length) (hbar : m = l.length ∨ barOk l.toArray (l.length - m - 1) = true) (I : (Nat → Bool) → Act → World → Prop)
    (hfin : ∀ f a w, (∀ j, j < m → f j = true) → I f a w → ∃ σ η, alexD C l.toArray (l.drop m) K σ η ∧ Abs C σ η a w)
    (hstep : ∀ f j o a w, j < m → l[j]? = some o → f j = false → Closed l f → Deps o f → I f a w →
      (Region.wanted o (yielded l.toArray a.tmps) = true ∧ o.wp C.P a w (I (fun i => i == j || f i)) Q) ∨ (Region.wanted o (yielded l.toArray a.tmps) = false ∧ I (fun i => i == j || f i) (a.put o.dst undef) w)) :
    ∀ (fuel : Nat) (listed : Array Bool) (a : Act) (w : World), listed.size = l.length → (listed.toList.filter (! ·)).length ≤ fuel →
      (∀ j o, l[j]? = some o → listed.getD j true = true → ∀ e ∈ o.after, Region.binds .any e = true → listed.getD e.on true = true) →
      (∀ i, m ≤ i → i < l.length → listed.getD i true = false) → I (fun i => listed.getD i true) a w → wpAny C.P .any l.toArray Q fuel listed a w := by
  have spec := draw_spec hB
  intro fuel
  induction fuel with
  | zero =>
    intro listed a w hsz hc hcl hno hI
    by_cases hall : ∀ j, j < m → listed.getD j true = true
    · obtain ⟨σ, η, h1, h2⟩ := hfin _ a w hall hI
      exact wp_draw hQ hB (l.length - m) m σ η (by omega) h1 0 listed a w hsz hc hcl hall hno h2
    · exfalso
      apply hall
      intro j hj
      cases hq : listed.getD j true with
      | true => rfl
      | false =>
        exfalso
        have hxl : j < listed.size := by omega
        have : false ∈ listed.toList.filter (! ·) := by
          rw [List.mem_filter]
          refine ⟨?_, rfl⟩
          rw [Array.getD_eq_getD_getElem?, Array.getElem?_eq_getElem hxl] at hq
          simp at hq
          rw [← hq]; exact Array.mem_toList_iff.2 (Array.getElem_mem hxl)
        have := List.length_pos_of_mem this
        omega
  | succ fuel ih =>
    intro listed a w hsz hc hcl hno hI
    by_cases hall : ∀ j, j < m → listed.getD j true = true
    · obtain ⟨σ, η, h1, h2⟩ := hfin _ a w hall hI
      exact wp_draw hQ hB (l.length - m) m σ η (by omega) h1 (fuel + 1) listed a w hsz hc hcl hall hno h2
    · refine ⟨fun hr => ?_, fun j hj => ?_⟩
      · exfalso
        apply hall
        intro j hj
        exact draw_full hB listed hsz hr j (by omega)
      · obtain ⟨hun, oj, hoj, hdep⟩ := mem_ready.1 hj
        have hlj : l[j]? = some oj := by simpa using hoj
        have hjl : j < l.length := (List.getElem?_eq_some_iff.1 hlj).1
        have hall' : ∀ e ∈ oj.after, Region.binds .any e = true → listed.getD e.on true = true := by
          intro e he hb
          have hlt := (spec j oj hlj).2.1 e he hb
          rw [getD_both (by omega)]; exact hdep e he hb
        have hjm : j < m := by
          rcases Nat.lt_or_ge j m with h | h
          · exact h
          · exfalso
            apply hall
            intro i hi
            rcases hbar with hb | hb
            · omega
            · have hml : m < l.length := by omega
              have hcl' : ∀ j o, l.toArray[j]? = some o → listed.getD j true = true → ∀ e ∈ o.after, Region.binds .any e = true → listed.getD e.on true = true := fun j o ho => hcl j o (by simpa using ho)
              simp only [barOk, Bool.and_eq_true] at hb
              obtain ⟨⟨_, hb1⟩, hb2⟩ := hb
              have hk1 : l.toArray.size - 1 - (l.length - m - 1) = m := by rw [List.size_toArray]; omega
              rw [hk1] at hb1
              have hlm : l.toArray[m]? = some l[m] := by simp [hml]
              rcases Nat.lt_or_ge m j with hmj | hmj
              · exfalso
                have hk2 : l.toArray.size - (l.length - m - 1) + (j - m - 1) = j := by rw [List.size_toArray]; omega
                have := List.all_eq_true.1 hb2 (j - m - 1) (List.mem_range.2 (by omega))
                rw [hk1, hk2] at this
                have := reach_listed (f := fun i => listed.getD i true) hcl' l.toArray.size j oj hoj hall' this
                rw [hno m (Nat.le_refl _) hml] at this; cases this
              · have hmj : j = m := by omega
                subst hmj
                exact reach_listed (f := fun i => listed.getD i true) hcl' l.toArray.size j oj hoj hall' (List.all_eq_true.1 hb1 i (List.mem_range.2 hi))
        have cnt : ((listed.setIfInBounds j true).toList.filter (! ·)).length ≤ fuel := by
          have hjs : j < listed.size := by omega
          have h0 : listed[j] = false := by
            rw [Array.getD_eq_getD_getElem?, Array.getElem?_eq_getElem hjs] at hun; simpa using hun
          have e1 : listed.toList = listed.toList.take j ++ false :: listed.toList.drop (j + 1) := by
            conv => lhs; rw [← List.take_append_drop j listed.toList]
            congr 1
            rw [List.drop_eq_getElem_cons (by simpa using hjs)]
            congr 1
          have e2 : (listed.setIfInBounds j true).toList = listed.toList.take j ++ true :: listed.toList.drop (j + 1) := by
            rw [Array.toList_setIfInBounds, List.set_eq_take_append_cons_drop, if_pos (by simpa using hjs)]
          rw [e1] at hc
          rw [e2]
          simp only [List.filter_append, List.length_append, List.filter_cons, Bool.not_false, if_true, List.length_cons, Bool.not_true, Bool.false_eq_true, if_false] at hc ⊢
          omega
        have pre' : ∀ i o, l[i]? = some o → (listed.setIfInBounds j true).getD i true = true → ∀ e ∈ o.after, Region.binds .any e = true → (listed.setIfInBounds j true).getD e.on true = true := by
          intro i o hi hli e he hb
          rw [setB listed j _ (by omega)] at hli ⊢
          by_cases hij : i = j
          · subst hij
            rw [hlj] at hi; injection hi with hi; subst hi
            rw [hall' e he hb]; simp
          · have hbe : (i == j) = false := by simpa using hij
            rw [hbe, Bool.false_or] at hli
            rw [hcl i o hi hli e he hb]; simp
        have no' : ∀ i, m ≤ i → i < l.length → (listed.setIfInBounds j true).getD i true = false := fun i h1 h2 => by
          rw [setB listed j i (by omega), hno i h1 h2]
          have : (i == j) = false := by simp; omega
          rw [this]; rfl
        have next : ∀ a' w', I (fun i => i == j || listed.getD i true) a' w' → wpAny C.P .any l.toArray Q fuel (listed.setIfInBounds j true) a' w' := fun a' w' hI' => by
          refine ih _ a' w' (by simpa using hsz) cnt pre' no' ?_
          have : (fun i => (listed.setIfInBounds j true).getD i true) = fun i => i == j || listed.getD i true := by funext i; exact setB listed j i (by omega)
          rw [this]; exact hI'
        unfold wpOp
        simp only [hoj]
        rcases hstep _ j oj a w hjm hlj hun hcl hall' hI with ⟨h1, h2⟩ | ⟨h1, h2⟩
        · rw [if_pos h1]
          exact .inl (Oper.wp_mono next h2)
        · rw [if_neg (by rw [h1]; simp)]
          exact next _ _ h2

/-! ### what an operation sees -/
theorem pst_same {l : List Oper} (hB : drawOk l = true) {σ : Sl} {ss : List SV} {f : Nat → Bool} {j : Nat} {oj : Oper} (hlj : l[j]? = some oj) (hun : f j = false) (hcl : Closed l f) (hd : Deps oj f) : ∀ t, t ∈ oj.looksAt l.toArray → get (pst σ 0 l ss f) t = get (pst σ 0 l ss (fun i => decide (i < j))) t := by
  have spec := draw_spec hB
  intro t ht
  refine pst_congr t l ss σ σ 0 _ _ rfl (fun i o hi hne => ?_)
  rw [Nat.zero_add] at hne
  rcases Nat.lt_trichotomy i j with h | h | h
  · have hni : f i = false := by
      cases hc' : f i with
      | false => rfl
      | true => exfalso; simp [hc', h] at hne
    rcases (spec j oj hlj).2.2 i o h hi with ⟨e, he, hb, hon⟩ | hap
    · have := hd e he hb
      rw [hon, hni] at this; cases this
    · intro hdt; exact (Oper.apart_spec hap).1 t hdt ht
  · exfalso; subst h; simp [hun] at hne
  · have hli : f i = true := by
      cases hc' : f i with
      | true => rfl
      | false =>
        exfalso
        have hdd : decide (i < j) = false := by simp; omega
        simp only [hc', hdd] at hne
        exact hne rfl
    rcases (spec i o hi).2.2 j oj h hlj with ⟨e, he, hb, hon⟩ | hap
    · have := hcl i o hi hli e he hb
      rw [hon, hun] at this; cases this
    · intro hdt; exact (Oper.apart_spec hap).2.2 t hdt ht
theorem pst_next {l : List Oper} (hB : drawOk l = true) {σ : Sl} {ss : List SV} {f : Nat → Bool} {j : Nat} {oj : Oper} {sj : SV} (hlj : l[j]? = some oj) (hs : ss[j]? = some sj) (hun : f j = false) (hcl : Closed l f) : ∀ t, get (put (pst σ 0 l ss f) oj.dst sj) t = get (pst σ 0 l ss (fun i => i == j || f i)) t := by
  have spec := draw_spec hB
  intro t
  have h1 := pst_more t j l ss σ 0 f oj sj hlj hs (by rw [Nat.zero_add]; exact hun) (fun i o hi hlt' hfi => by
    rw [Nat.zero_add] at hfi
    rcases (spec i o hi).2.2 j oj (by omega) hlj with ⟨e, he, hb, hon⟩ | hap
    · have := hcl i o hi hfi e he hb
      rw [hon, hun] at this; cases this
    · cases hdd : oj.dst with
      | none => exact .inr rfl
      | some d => exact .inl ((Oper.apart_spec hap).2.1 d hdd))
  rw [h1, Nat.zero_add]
theorem Closed.more {l : List Oper} {f : Nat → Bool} {j : Nat} {oj : Oper} (hlj : l[j]? = some oj) (hcl : Closed l f) (hd : Deps oj f) : Closed l (fun i => i == j || f i) := by
  intro i o hi hli e he hb
  by_cases hij : i = j
  · subst hij
    rw [hlj] at hi; injection hi with hi; subst hi
    simp [hd e he hb]
  · have hbe : (i == j) = false := by simpa using hij
    simp only [hbe, Bool.false_or] at hli
    simp [hcl i o hi hli e he hb]

/-! ### variables made in such a region -/
/-- a block of the call's own that nobody names yet; what it holds -/
def Fresh (C : Ctx) (g : Gh) (w : World) (v : Value) (cs : List SV) (t : TypeId) : Prop :=
  ∃ b us, v = .pointer (some ⟨b, 0, none⟩) ∧ w.heap[b]? = some (.cells us t (0, 0)) ∧ us.size = cs.length ∧ (∀ u ∈ us, u.oneCell' = true) ∧ (∀ (j : Nat) (u : Value) (s : SV), us[j]? = some u → cs[j]? = some s → RepS g w u s) ∧
    (∀ o, ¬ g.St b o) ∧ (∀ id, g.blk id ≠ some b) ∧ C.w0.heap.size ≤ b ∧ b < w.heap.size
theorem Fresh.grow {C : Ctx} {g g' : Gh} {w w' : World} {v : Value} {cs : List SV} {t : TypeId} (hst : ∀ b o, g.St b o → b < w.heap.size) (h : Fresh C g w v cs t) (k : Grow g w g' w') : Fresh C g' w' v cs t := by
  obtain ⟨b, us, h1, h2, q1, q2, q3, h3, h4, h5, h6⟩ := h
  refine ⟨b, us, h1, (k.heap b h6).trans h2, q1, q2, fun j u s hu hs => (q3 j u s hu hs).grow hst k, fun o ho => ?_, fun id => by rw [k.blk]; exact h4 id, h5, Nat.lt_of_lt_of_le h6 k.size⟩
  rcases k.new b o ho with h7 | h7
  · exact h3 o h7
  · omega

theorem AbsG.adopt {C : Ctx} {g : Gh} {σ : Sl} {η : List Ob} {a : Act} {w : World} (h : AbsG C g σ η a w) {d : Nat} {cs : List SV} {t : TypeId} (hf : Fresh C g w (a.tmps.getD d undef) cs t) :
    ∃ g', AbsG C g' ((d, .ptr η.length 0) :: σ) (η ++ [.bx none (some t) cs]) a w ∧ g'.St = g.St ∧ (∀ id b, g'.blk id = some b → g.blk id = some b ∨ a.tmps.getD d undef = .pointer (some ⟨b, 0, none⟩)) ∧ ∀ {v : Value} {s : SV}, RepS g w v s → RepS g' w v s := by
  obtain ⟨b, us, f1, f2, z1, z2, z3, f3, f4, f5, f6⟩ := hf
  have hn := h.inv.n
  let g' : Gh := { g with blk := upd g.blk g.n (some b), n := g.n + 1 }
  have hold : ∀ id, id < g.n → g'.blk id = g.blk id ∧ g'.cap id = g.cap id ∧ g'.sz id = g.sz id := fun id hid => ⟨by simp [g', upd, Nat.ne_of_lt hid], rfl, rfl⟩
  have hbn : g'.blk g.n = some b := by simp [g', upd]
  have hb' : ∀ id c, g'.blk id = some c → (id < g.n ∧ g.blk id = some c) ∨ (id = g.n ∧ c = b) := by
    intro id c hc
    rcases Nat.lt_trichotomy id g.n with hi | hi | hi
    · rw [(hold id hi).1] at hc; exact .inl ⟨hi, hc⟩
    · subst hi; rw [hbn] at hc; injection hc with hc; exact .inr ⟨rfl, hc.symm⟩
    · have hne : id ≠ g.n := by omega
      simp only [g', upd, if_neg hne] at hc
      rw [h.inv.dead id (by omega)] at hc; cases hc
  have kp := Keep.refl g.St w
  have rx : ∀ {v : Value} {s : SV}, RepS g w v s → RepS g' w v s := fun r => r.ext (g' := g') kp hold (Nat.le_succ _)
  refine ⟨g', ⟨h.defers, h.size, ⟨by rw [List.length_append]; show g.n + 1 = _; rw [hn]; rfl, fun id c hc => ?_, fun id hid => ?_, fun i j c hi hj => ?_, fun id o ho => ?_, h.inv.st, h.inv.gl⟩, h.os, h.tape, h.output, h.wsize, h.heap, h.keep, h.new, fun id c hc hr => ?_, fun u => ?_⟩, rfl, fun id c hc => ?_, rx⟩
  · rcases hb' id c hc with ⟨_, q⟩ | ⟨_, rfl⟩
    · exact h.inv.lt id c q
    · exact f6
  · have hid : g.n + 1 ≤ id := hid
    have hne : id ≠ g.n := by omega
    simp only [g', upd, if_neg hne]; exact h.inv.dead id (by omega)
  · rcases hb' i c hi with ⟨q1, q2⟩ | ⟨q1, q2⟩ <;> rcases hb' j c hj with ⟨q3, q4⟩ | ⟨q3, q4⟩
    · exact h.inv.inj i j c q2 q4
    · exact absurd (q4 ▸ q2) (f4 i)
    · exact absurd (q2 ▸ q4) (f4 j)
    · omega
  · rw [List.getElem?_append] at ho
    split at ho
    · rename_i hc
      exact (h.inv.ob id o ho).ext (g' := g') kp hold (Nat.le_succ _) (by omega) (fun _ _ => ⟨rfl, fun _ => Iff.rfl⟩)
    · rename_i hc
      have hid : id = g.n := by
        have := (List.getElem?_eq_some_iff.1 ho).1
        simp at this; omega
      subst hid
      have : g.n - η.length = 0 := by omega
      rw [this] at ho
      simp at ho; subst ho
      exact ⟨b, t, us, hbn, f2, z1, z2, fun j u s hu hs => rx (z3 j u s hu hs), f3, fun _ h => (by cases h), fun _ h => (Option.some.inj h).symm⟩
  · rcases hb' id c hc with ⟨_, q⟩ | ⟨_, rfl⟩
    · exact h.own id c q hr
    · exact .inl f5
  · rw [get_cons]
    split
    · rename_i e; subst e
      refine ⟨by show η.length < g.n + 1; omega, b, by rw [← hn]; exact hbn, f1⟩
    · exact rx (h.rep u)
  · rcases hb' id c hc with ⟨_, q⟩ | ⟨_, rfl⟩
    · exact .inl q
    · exact .inr f1

/-- a block that nobody names is written -/
theorem AbsG.other {C : Ctx} {g : Gh} {σ : Sl} {η : List Ob} {a : Act} {w : World} (h : AbsG C g σ η a w) {b : Nat} (us' : Array Value) (hst : ∀ o, ¬ g.St b o) (hb : ∀ id, g.blk id ≠ some b) (h0 : C.w0.heap.size ≤ b) :
    AbsG C g σ η a (w.setRow b us') ∧ ∀ {v : Value} {s : SV}, RepS g w v s → RepS g (w.setRow b us') v s := by
  have hoth : ∀ k, k ≠ b → (w.setRow b us').heap[k]? = w.heap[k]? := fun k hk => setRow_other w b k us' hk
  have kp : Keep g.St w g.St (w.setRow b us') := ⟨fun _ _ h => h, fun c o u hc hu => (World.cell?_of_block (a := ⟨c, o, none⟩) (hoth c (fun e => hst o (e ▸ hc)))).trans hu, fun c hc => hoth c (fun e => hst 0 (e ▸ hc 0))⟩
  have rk : ∀ {v : Value} {s : SV}, RepS g w v s → RepS g (w.setRow b us') v s := fun r => r.ext kp (fun _ _ => ⟨rfl, rfl, rfl⟩) (Nat.le_refl _)
  refine ⟨⟨h.defers, h.size, ⟨h.inv.n, fun i c hc => by rw [setRow_size]; exact h.inv.lt i c hc, h.inv.dead, h.inv.inj, fun i o ho => ?_, fun c o hc => by rw [setRow_size]; exact h.inv.st c o hc, h.inv.gl.keep kp⟩, h.os, h.tape, h.output, by rw [setRow_size]; exact h.wsize,
    fun k hk hx => ?_, h.keep.trans kp, h.new, h.own, fun t => rk (h.rep t)⟩, rk⟩
  · exact (h.inv.ob i o ho).ext kp (fun _ _ => ⟨rfl, rfl, rfl⟩) (Nat.le_refl _) (by rw [h.inv.n]; exact (List.getElem?_eq_some_iff.1 ho).1) (fun c hcb => ⟨hoth c (fun e => hb i (e ▸ hcb)), fun _ => Iff.rfl⟩)
  · rw [hoth k (fun e => by omega)]; exact h.heap k hk hx

/-- a variable to be made: the slot, the zero value's cells, the type; what it holds in the end -/
structure Pn where
  d : Nat
  zs : List Value
  t : TypeId
  cs : List SV
def adσ : List Pn → Nat → Sl → Sl
  | [], _, σ => σ
  | p :: r, n, σ => adσ r (n + 1) ((p.d, .ptr n 0) :: σ)
def adη (pn : List Pn) : List Ob := pn.map fun p => .bx none (some p.t) p.cs

theorem AbsG.adoptAll {C : Ctx} {a : Act} {w : World} : ∀ (pn : List Pn) (g : Gh) (σ : Sl) (η : List Ob), AbsG C g σ η a w → (∀ p ∈ pn, Fresh C g w (a.tmps.getD p.d undef) p.cs p.t) →
    (pn.Pairwise fun p q => a.tmps.getD p.d undef ≠ a.tmps.getD q.d undef) → Abs C (adσ pn η.length σ) (η ++ adη pn) a w
  | [], g, σ, η, h, _, _ => ⟨g, by simpa [adσ, adη] using h⟩
  | p :: r, g, σ, η, h, hf, hp => by
    obtain ⟨hp1, hp2⟩ := List.pairwise_cons.1 hp
    obtain ⟨g', h1, h2, h3, h4⟩ := h.adopt (hf p (by simp))
    have := AbsG.adoptAll r g' _ _ h1 (fun q hq => ?_) hp2
    · rw [List.length_append] at this
      simpa [adσ, adη, List.append_assoc] using this
    · obtain ⟨b, us, f1, f2, z1, z2, z3, f3, f4, f5, f6⟩ := hf q (by simp [hq])
      refine ⟨b, us, f1, f2, z1, z2, fun j u s hu hs => h4 (z3 j u s hu hs), by rw [h2]; exact f3, fun id hid => ?_, f5, f6⟩
      rcases h3 id b hid with h5 | h5
      · exact f4 id h5
      · exact hp1 q hq (by rw [h5, f1])

/-- does only that operation write its slot? -/
def once (l : List Oper) (j d : Nat) : Bool := (List.range l.length).all fun i => Nat.beq i j || match l[i]? with | some o => !(match o.dst with | some e => Nat.beq e d | none => false) | none => true
theorem once_spec {l : List Oper} {j d : Nat} (h : once l j d = true) {i : Nat} {o : Oper} (hi : l[i]? = some o) (hne : i ≠ j) : o.dst ≠ some d := by
  have := List.all_eq_true.1 h i (List.mem_range.2 (List.getElem?_eq_some_iff.1 hi).1)
  intro hd
  simp [hi, hd] at this
  exact hne this

/-- what an operation of the segment does: it yields something, or makes a variable (that is written by the operation 'st', if said), or writes the variable that operation 'of' makes -/
inductive SegK where
  | y (s : SV)
  | mk (p : Pn) (st : Option Nat)
  | st (of : Nat) (p : Pn)
def SegK.sv : SegK → SV
  | .y s => s
  | .mk _ _ => .top
  | .st _ _ => .top
/-- the walk of the text's order -/
def segOk (C : Ctx) (l : List Oper) (η : List Ob) (all : List SegK) : Nat → List Oper → List SegK → Sl → Prop
  | j, o :: r, .y s :: ks, σ => (Wants l.toArray σ o.guard true ∧ Ylds C.P η σ o s) ∧ DstOk C.N o.dst ∧ segOk C l η all (j + 1) r ks (put σ o.dst s)
  | j, o :: r, .mk p st :: ks, σ => (o.op = .alloc p.t ∧ o.guard = none ∧ o.dst = some p.d ∧ zeroOf C.P p.t = some p.zs ∧ once l j p.d = true ∧ (match st with | none => p.cs = p.zs.map cst | some i => all[i]? = some (.st j p))) ∧ DstOk C.N o.dst ∧ segOk C l η all (j + 1) r ks (put σ o.dst .top)
  | j, o :: r, .st i p :: ks, σ => ((∃ t x y b0 n, o.op = .store t x y ∧ x = .tmp p.d ∧ scells (oval σ y) = some p.cs ∧ tyCells C.P t = some (b0, n) ∧ Nat.beq p.cs.length n = true) ∧ o.guard = none ∧ o.dst = none ∧ all[i]? = some (.mk p (some j)) ∧ Nat.blt i j = true ∧ Nat.beq p.zs.length p.cs.length = true) ∧ segOk C l η all (j + 1) r ks (put σ o.dst .top)
  | _, _, [], _ => True
  | _, [], _ :: _, _ => False
def pnOf : List SegK → List Pn
  | [] => []
  | .mk p _ :: r => p :: pnOf r
  | _ :: r => pnOf r
/-- the slots behind the segment -/
def segσ : List Oper → List SegK → Sl → Sl
  | o :: r, k :: ks, σ => segσ r ks (put σ o.dst k.sv)
  | _, _, σ => σ

theorem segOk_len {C : Ctx} {l : List Oper} {η : List Ob} {all : List SegK} : ∀ (r : List Oper) (ks : List SegK) (j : Nat) (σ : Sl), segOk C l η all j r ks σ → ks.length ≤ r.length
  | _, [], _, _, _ => Nat.zero_le _
  | o :: r, .y s :: ks, j, σ, h => by have := segOk_len r ks _ _ h.2.2; simpa using this
  | o :: r, .mk p _ :: ks, j, σ, h => by have := segOk_len r ks _ _ h.2.2; simpa using this
  | o :: r, .st _ p :: ks, j, σ, h => by have := segOk_len r ks _ _ h.2; simpa using this
  | [], _ :: _, _, _, h => h.elim
theorem segOk_at {C : Ctx} {l : List Oper} {η : List Ob} {all : List SegK} : ∀ (r : List Oper) (ks : List SegK) (j : Nat) (σ : Sl), segOk C l η all j r ks σ → ∀ (i : Nat) o k, r[i]? = some o → ks[i]? = some k →
    (match k with
    | .y s => DstOk C.N o.dst ∧ Wants l.toArray (pst σ j r (ks.map SegK.sv) (fun m => decide (m < j + i))) o.guard true ∧ Ylds C.P η (pst σ j r (ks.map SegK.sv) (fun m => decide (m < j + i))) o s
    | .mk p st => DstOk C.N o.dst ∧ o.op = .alloc p.t ∧ o.guard = none ∧ o.dst = some p.d ∧ zeroOf C.P p.t = some p.zs ∧ once l (j + i) p.d = true ∧ (match st with | none => p.cs = p.zs.map cst | some m => all[m]? = some (.st (j + i) p))
    | .st m p => (∃ t x y b0 n, o.op = .store t x y ∧ x = .tmp p.d ∧ scells (oval (pst σ j r (ks.map SegK.sv) (fun m => decide (m < j + i))) y) = some p.cs ∧ tyCells C.P t = some (b0, n) ∧ Nat.beq p.cs.length n = true) ∧ o.guard = none ∧ o.dst = none ∧ all[m]? = some (.mk p (some (j + i))) ∧ Nat.blt m (j + i) = true ∧ Nat.beq p.zs.length p.cs.length = true)
  | _, [], _, _, _, i, o, k, _, hk => by simp at hk
  | [], _ :: _, _, _, h, _, _, _, _, _ => h.elim
  | o :: r, k :: ks, j, σ, h, 0, o', k', ho, hk => by
    simp at ho hk; subst ho; subst hk
    have e0 : ∀ t, get (pst σ j (o :: r) ((k :: ks).map SegK.sv) (fun m => decide (m < j + 0))) t = get σ t := by
      intro t
      have := pst_congr t (o :: r) ((k :: ks).map SegK.sv) σ σ j (fun m => decide (m < j + 0)) (fun _ => false) rfl (fun i o' hi hne => by simp at hne)
      rw [this, pst_none]
    cases k with
    | y s => exact ⟨h.2.1, h.1.1.congr e0, h.1.2.congr fun x _ => oval_congr e0 x⟩
    | mk p st => exact ⟨h.2.1, h.1⟩
    | st m p =>
      obtain ⟨⟨⟨t, x, y, b0, n, h1, h2, h3, h4⟩, h5⟩, _⟩ := h
      exact ⟨⟨t, x, y, b0, n, h1, h2, by rw [oval_congr e0 y]; exact h3, h4⟩, h5⟩
  | o :: r, k :: ks, j, σ, h, i + 1, o', k', ho, hk => by
    have hh : segOk C l η all (j + 1) r ks (put σ o.dst k.sv) := by
      cases k with
      | y s => exact h.2.2
      | mk p st => exact h.2.2
      | st m p => exact h.2
    have := segOk_at r ks (j + 1) _ hh i o' k' (by simpa using ho) (by simpa using hk)
    have hj : j + (i + 1) = j + 1 + i := by omega
    have hd : decide (j < j + 1 + i) = true := by simp; omega
    simp only [List.map_cons, pst, hj, hd]
    exact this
theorem segσ_pst : ∀ (r : List Oper) (ks : List SegK) (j : Nat) (σ : Sl) (f : Nat → Bool), (∀ i, i < ks.length → f (j + i) = true) → pst σ j r (ks.map SegK.sv) f = segσ r ks σ
  | [], ks, _, _, _, _ => by cases ks <;> rfl
  | _ :: _, [], _, _, _, _ => rfl
  | o :: r, k :: ks, j, σ, f, h => by
    have h0 := h 0 (by simp)
    rw [Nat.add_zero] at h0
    simp only [List.map_cons, pst, h0, segσ]
    exact segσ_pst r ks (j + 1) _ f (fun i hi => by rw [show j + 1 + i = j + (i + 1) by omega]; exact h (i + 1) (by simpa using hi))
theorem pnOf_mem : ∀ {ks : List SegK} {p : Pn}, p ∈ pnOf ks → ∃ (j : Nat) (st : Option Nat), ks[j]? = some (.mk p st)
  | .y s :: ks, p, h => by obtain ⟨j, st, hj⟩ := pnOf_mem (ks := ks) h; exact ⟨j + 1, st, by simpa using hj⟩
  | .st _ _ :: ks, p, h => by obtain ⟨j, st, hj⟩ := pnOf_mem (ks := ks) h; exact ⟨j + 1, st, by simpa using hj⟩
  | .mk q st :: ks, p, h => by
    rcases List.mem_cons.1 h with rfl | h
    · exact ⟨0, st, rfl⟩
    · obtain ⟨j, st, hj⟩ := pnOf_mem (ks := ks) h; exact ⟨j + 1, st, by simpa using hj⟩
  | [], p, h => by simp [pnOf] at h
theorem pnOf_pair {R : Pn → Pn → Prop} : ∀ (ks : List SegK), (∀ (i j : Nat) p q s s', ks[i]? = some (.mk p s) → ks[j]? = some (.mk q s') → i ≠ j → R p q) → (pnOf ks).Pairwise R
  | [], _ => .nil
  | .y s :: ks, h => pnOf_pair ks (fun i j p q s s' hi hj hne => h (i + 1) (j + 1) p q s s' (by simpa using hi) (by simpa using hj) (by omega))
  | .st _ _ :: ks, h => pnOf_pair ks (fun i j p q s s' hi hj hne => h (i + 1) (j + 1) p q s s' (by simpa using hi) (by simpa using hj) (by omega))
  | .mk p st :: ks, h => List.pairwise_cons.2 ⟨fun q hq => by obtain ⟨j, s', hj⟩ := pnOf_mem hq; exact h 0 (j + 1) p q st s' rfl (by simpa using hj) (by omega), pnOf_pair ks (fun i j p q s s' hi hj hne => h (i + 1) (j + 1) p q s s' (by simpa using hi) (by simpa using hj) (by omega))⟩

theorem zeroOf_one {P : Program} {t : TypeId} {zs : List Value} (h : zeroOf P t = some zs) : (∀ v ∈ zs, v.oneCell' = true) ∧ ∃ z, z.cells.toList = zs ∧ (∀ w, (zeroValue t).run P w = .ok z w) := by
  unfold zeroOf at h
  split at h
  · rename_i i hi
    split at h
    · rename_i z hz
      split at h
      · rename_i hall
        injection h with h; subst h
        exact ⟨fun v hv => Array.all_eq_true_iff_forall_mem.1 hall v (by simpa using hv), z, rfl, fun w => by simp [zeroValue, typeInfo, hi, hz]⟩
      · cases h
    · cases h
  · cases h

/-- what a variable holds where just f has come up -/
def holds (f : Nat → Bool) (p : Pn) (st : Option Nat) : List SV := match st with
  | none => p.cs
  | some i => if f i then p.cs else p.zs.map cst

theorem awp_drawP {C : Ctx} {Q : Exit → Sl → List Ob → Prop} {σ : Sl} {η : List Ob} {id : Nat} {l : List Oper} (ks : List SegK) (hm : C.P.follows .mixedOrders = true) (hB : drawOk l = true)
    (hbar : ks.length = l.length ∨ barOk l.toArray (l.length - ks.length - 1) = true) (hs : segOk C l η ks 0 l ks σ)
    (h : alex C true l.toArray (l.drop ks.length) (Q .normal) (adσ (pnOf ks) η.length (segσ l ks σ)) (η ++ adη (pnOf ks))) : awp C (.region id l.toArray true) Q σ η := by
  intro R hR a w ⟨g, hg⟩
  have hd : Abs C σ η a { w with drawn := w.drawn + 1 } := ⟨g, hg.grow ⟨rfl, rfl, rfl, rfl, rfl, rfl, rfl, Nat.le_refl _, fun _ _ => rfl, fun _ _ h => h, fun _ _ h => .inl h, hg.inv.st⟩⟩
  have hkl := segOk_len l ks 0 σ hs
  have hat := segOk_at l ks 0 σ hs
  have spec := draw_spec hB
  let I : (Nat → Bool) → Act → World → Prop := fun f a w => ∃ g, AbsG C g (pst σ 0 l (ks.map SegK.sv) f) η a w ∧ (∀ (j : Nat) p st, ks[j]? = some (.mk p st) → f j = true → Fresh C g w (a.tmps.getD p.d undef) (holds f p st) p.t) ∧
    (∀ (i j : Nat) p q s s', ks[i]? = some (.mk p s) → ks[j]? = some (.mk q s') → i ≠ j → f i = true → f j = true → a.tmps.getD p.d undef ≠ a.tmps.getD q.d undef)
  have hlk : ∀ {j : Nat} {k : SegK}, ks[j]? = some k → ∃ o, l[j]? = some o := fun hk => ⟨_, List.getElem?_eq_getElem (Nat.lt_of_lt_of_le (List.getElem?_eq_some_iff.1 hk).1 hkl)⟩
  refine wp_region_any hm (wp_seg (C := C) (K := Q .normal) (fun σ' η' a w hk hab => hR _ _ _ _ _ hk hab) hB ks.length hkl hbar I ?_ ?_ _ _ a _ (by simp) ?_ ?_ (fun i _ hi => ?_) ?_)
  · intro f a w hf ⟨g, h1, h2, h3⟩
    refine ⟨_, _, h, ?_⟩
    rw [segσ_pst l ks 0 σ f (fun i hi => by rw [Nat.zero_add]; exact hf i hi)] at h1
    refine h1.adoptAll _ _ _ _ (fun p hp => ?_) (pnOf_pair ks fun i j p q s s' hi hj hne => h3 i j p q s s' hi hj hne (hf i (List.getElem?_eq_some_iff.1 hi).1) (hf j (List.getElem?_eq_some_iff.1 hj).1))
    obtain ⟨j, st, hj⟩ := pnOf_mem hp
    have hjl := (List.getElem?_eq_some_iff.1 hj).1
    have hfr := h2 j p st hj (hf j hjl)
    obtain ⟨o, ho⟩ := hlk hj
    have hcs : holds f p st = p.cs := by
      cases st with
      | none => rfl
      | some i =>
        have : ks[i]? = some (.st (0 + j) p) := (hat j o _ ho hj).2.2.2.2.2.2
        have hil : i < ks.length := (List.getElem?_eq_some_iff.1 this).1
        simp only [holds, hf i hil, if_true]
    rw [hcs] at hfr; exact hfr
  · intro f j o a w hjm hlj hun hcl hdep ⟨g, h1, h2, h3⟩
    obtain ⟨k, hk⟩ : ∃ k, ks[j]? = some k := ⟨_, List.getElem?_eq_getElem hjm⟩
    have hkk := hat j o k hlj hk
    rw [Nat.zero_add] at hkk
    have same := pst_same (σ := σ) (ss := ks.map SegK.sv) hB hlj hun hcl hdep
    have hsk : (ks.map SegK.sv)[j]? = some k.sv := by rw [List.getElem?_map, hk]; rfl
    have next := pst_next (σ := σ) hB hlj hsk hun hcl
    -- slots of variables that are made stay
    have stay : ∀ (i : Nat) p st v, ks[i]? = some (.mk p st) → i ≠ j → (a.put o.dst v).tmps.getD p.d undef = a.tmps.getD p.d undef := by
      intro i p st v hi hne
      obtain ⟨o', hli⟩ := hlk hi
      have hon := (hat i _ _ hli hi).2.2.2.2.2.1
      rw [Nat.zero_add] at hon
      have hne2 := once_spec hon hlj (fun e => hne e.symm)
      cases hod : o.dst with
      | none => rfl
      | some e =>
        have : e ≠ p.d := fun h => hne2 (by rw [hod, h])
        simp [Act.put, Array.getD_eq_getD_getElem?, Array.getElem?_setIfInBounds_ne this]
    have hmk : ∀ i, (i == j || f i) = true → i ≠ j → f i = true := fun i h hne => by
      have : (i == j) = false := by simpa using hne
      simpa [this] using h
    -- an operation that writes no variable leaves what they hold
    have hsame : (∀ m p, k ≠ .st m p) → ∀ (i : Nat) p st, ks[i]? = some (.mk p st) → holds (fun i => i == j || f i) p st = holds f p st := fun hns i p st hi => by
      cases st with
      | none => rfl
      | some m =>
        obtain ⟨o', ho'⟩ := hlk hi
        have : ks[m]? = some (.st (0 + i) p) := (hat i o' _ ho' hi).2.2.2.2.2.2
        have hmj : m ≠ j := fun e => by subst e; rw [hk] at this; exact hns _ _ (Option.some.inj this)
        have : (m == j) = false := by simpa using hmj
        simp only [holds, this, Bool.false_or]
    cases k with
    | y s =>
      left
      obtain ⟨hdst, hw, hy⟩ := hkk
      refine ⟨hw.wanted (g := g) (w := w) fun t q b hgd ht => by rw [← same t (looks_guard hgd ht)]; exact h1.rep t, ?_⟩
      have hy' : Ylds C.P η (pst σ 0 l (ks.map SegK.sv) f) o s := hy.congr fun x hx => by
        cases x with
        | tmp t => exact same t (looks_operand hx)
        | _ => rfl
      have fin : ∀ v g' w', Grow g w g' w' → RepS g' w' v s → I (fun i => i == j || f i) (a.put o.dst v) w' := fun v g' w' hgr hr => by
        have hab := (h1.grow hgr).put hdst hr
        refine ⟨g', hab.get_eq fun t => .inl (next t).symm, fun i p st hi hfi => ?_, fun i i2 p q s1 s2 hi hi2 hne hf1 hf2 => ?_⟩
        · have hne : i ≠ j := fun e => by subst e; rw [hk] at hi; cases hi
          rw [stay i p st v hi hne, hsame (fun _ _ h => by cases h) i p st hi]
          exact (h2 i p st hi (hmk i hfi hne)).grow h1.inv.st hgr
        · have hne1 : i ≠ j := fun e => by subst e; rw [hk] at hi; cases hi
          have hne2 : i2 ≠ j := fun e => by subst e; rw [hk] at hi2; cases hi2
          rw [stay i p s1 v hi hne1, stay i2 q s2 v hi2 hne2]
          exact h3 i i2 p q s1 s2 hi hi2 hne (hmk i hf1 hne1) (hmk i2 hf2 hne2)
      unfold Oper.wp
      rcases hy' g w a h1.inv (fun x _ => h1.eval x) with ⟨v, g', w', hr, hg, hs'⟩ | ⟨fn, args, hr, hc⟩
      · rw [hr]; exact fin v g' w' hg hs'
      · rw [hr, Oper.upon_enter]
        refine hc.mono fun e w' ⟨v, g', he, hg, hs'⟩ => ?_
        subst he
        exact fin v g' w' hg hs'
    | mk p st =>
      left
      obtain ⟨hdst, q1, q2, q3, q4, q5, q6⟩ := hkk
      refine ⟨by unfold Region.wanted; rw [q2], ?_⟩
      obtain ⟨z1, z, z2, z3⟩ := zeroOf_one q4
      have hrun : (execOp a.eval o).run C.P w = .ok (.value (.pointer (some ⟨w.heap.size, 0, none⟩))) (w.alloc (.cells z.cells p.t)) := by
        simp [execOp, q1, Instr.alloc, z3, newVar, newRow]
      have hgr : Grow g w g (w.alloc (.cells z.cells p.t)) := ⟨rfl, rfl, rfl, rfl, rfl, rfl, rfl, by simp, fun k hk => Below.heap_alloc w _ k hk, fun _ _ h => h, fun _ _ h => .inl h, fun b o hb => Nat.lt_of_lt_of_le (h1.inv.st b o hb) (by simp)⟩
      unfold Oper.wp
      rw [hrun]
      have hab := (h1.grow hgr).put (d := o.dst) (v := .pointer (some ⟨w.heap.size, 0, none⟩)) (s := .top) hdst trivial
      have hnew : (a.put o.dst (.pointer (some ⟨w.heap.size, 0, none⟩))).tmps.getD p.d undef = .pointer (some ⟨w.heap.size, 0, none⟩) := by
        rw [q3]
        have hlt : p.d < a.tmps.size := by rw [q3] at hdst; rw [h1.size]; simpa [DstOk, Nat.blt_eq] using hdst
        simp [Act.put, hlt]
      have hold : ∀ (i : Nat) q s, ks[i]? = some (.mk q s) → f i = true → a.tmps.getD q.d undef ≠ .pointer (some ⟨w.heap.size, 0, none⟩) := fun i q s hi hfi he => by
        obtain ⟨b, us, f1, _, _, _, _, _, _, _, f6⟩ := h2 i q s hi hfi
        rw [he] at f1
        injection f1 with f1; injection f1 with f1; injection f1 with f1
        omega
      -- the operation that writes it hasn't come up yet
      have hz : holds (fun i => i == j || f i) p st = p.zs.map cst := by
        cases st with
        | none => exact q6
        | some m =>
          simp only at q6
          obtain ⟨o', ho'⟩ := hlk q6
          obtain ⟨⟨tt, x, y, b0, n, r1, r2, _⟩, _, _, _, r3, _⟩ := hat m o' _ ho' q6
          rw [Nat.zero_add] at r3
          have hjm : j < m := by simpa using r3
          have hfm : f m = false := by
            cases hfm : f m with
            | false => rfl
            | true =>
              rcases (spec m o' ho').2.2 j o hjm hlj with ⟨e, he, hb, hon⟩ | hap
              · have := hcl m o' ho' hfm e he hb
                rw [hon, hun] at this; cases this
              · exact absurd (looks_operand (ops := l.toArray) (o := o') (t := p.d) (by rw [r1, r2]; simp [Op.operands])) ((Oper.apart_spec hap).1 p.d q3)
          have : (m == j) = false := by simp; omega
          simp only [holds, this, hfm, Bool.or_false, Bool.false_eq_true, if_false]
      refine ⟨g, hab.get_eq fun t => .inl (next t).symm, fun i q s hi hfi => ?_, fun i i2 q q' s s' hi hi2 hne hf1 hf2 => ?_⟩
      · by_cases hij : i = j
        · subst hij
          rw [hk] at hi; injection hi with hi; injection hi with hi hi'; subst hi; subst hi'
          rw [hnew, hz]
          refine ⟨w.heap.size, z.cells, rfl, _root_.Go.heap_alloc_new w _, by rw [← z2]; simp, fun u hu => z1 u (by rw [← z2]; simpa using hu), fun jj u s hu hs => ?_, fun o ho => absurd (h1.inv.st _ o ho) (by omega), fun id hid => absurd (h1.inv.lt id _ hid) (by omega), h1.wsize, by simp⟩
          rw [← z2, List.getElem?_map] at hs
          rw [← Array.getElem?_toList] at hu
          rw [hu] at hs
          simp at hs; subst hs; exact RepS.cst _ _ u
        · rw [stay i q s _ hi hij, hsame (fun _ _ h => by cases h) i q s hi]
          exact (h2 i q s hi (hmk i hfi hij)).grow h1.inv.st hgr
      · by_cases hij : i = j
        · have hij2 : i2 ≠ j := fun e => hne (hij.trans e.symm)
          subst hij
          rw [hk] at hi; injection hi with hi; injection hi with hi hi'; subst hi
          rw [hnew, stay i2 q' s' _ hi2 hij2]
          exact fun e => hold i2 q' s' hi2 (hmk i2 hf2 hij2) e.symm
        · by_cases hij2 : i2 = j
          · subst hij2
            rw [hk] at hi2; injection hi2 with hi2; injection hi2 with hi2 hi2'; subst hi2
            rw [hnew, stay i q s _ hi hij]
            exact hold i q s hi (hmk i hf1 hij)
          · rw [stay i q s _ hi hij, stay i2 q' s' _ hi2 hij2]
            exact h3 i i2 q q' s s' hi hi2 hne (hmk i hf1 hij) (hmk i2 hf2 hij2)
    | st m p =>
      left
      obtain ⟨⟨t, x, y, b0, n, r1, r2, r3, r4, r5⟩, q2, q3, q4, q5, q6⟩ := hkk
      refine ⟨by unfold Region.wanted; rw [q2], ?_⟩
      have hmj : m < j := by simpa using q5
      obtain ⟨om, hom⟩ := hlk q4
      have hq4 := hat m om _ hom q4
      -- the variable has been made
      have hfm : f m = true := by
        rcases (spec j o hlj).2.2 m om hmj hom with ⟨e, he, hb, hon⟩ | hap
        · rw [← hon]; exact hdep e he hb
        · exact absurd (looks_operand (ops := l.toArray) (o := o) (t := p.d) (by rw [r1, r2]; simp [Op.operands])) ((Oper.apart_spec hap).1 p.d hq4.2.2.2.1)
      have hfr := h2 m p _ q4 hfm
      have hh : holds f p (some j) = p.zs.map cst := by simp only [holds, hun, Bool.false_eq_true, if_false]
      rw [hh] at hfr
      obtain ⟨b, us, f1, f2, z1, z2, z3, f3, f4, f5, f6⟩ := hfr
      have hy1 : oval (pst σ 0 l (ks.map SegK.sv) f) y = oval (pst σ 0 l (ks.map SegK.sv) (fun i => decide (i < j))) y := by
        cases y with
        | tmp u => exact same u (looks_operand (by rw [r1]; simp [Op.operands]))
        | _ => rfl
      have hry := h1.eval y
      rw [hy1] at hry
      obtain ⟨c1, c2, c3⟩ := hry.cells r3
      have hpl := Nat.eq_of_beq_eq_true q6
      have hn := Nat.eq_of_beq_eq_true r5
      have hus : us.size = p.cs.length := by rw [z1, List.length_map]; exact hpl
      have hstore := run_storeCells_at C.P b 0 p.t (a.eval y).cells.toList 0 us w f2 (by rw [Array.length_toList]; omega) (fun v hm => c2 v (by simpa using hm))
      simp only [Nat.add_zero, Nat.zero_add, List.take_zero, List.nil_append] at hstore
      rw [List.drop_of_length_le (by rw [Array.length_toList, Array.length_toList]; omega), List.append_nil] at hstore
      obtain ⟨ho1, ho2⟩ := h1.other (a.eval y).cells f3 f4 f5
      have hrun : (execOp a.eval o).run C.P w = .ok .skip (w.setRow b (a.eval y).cells) := by
        have hax : a.eval x = .pointer (some ⟨b, 0, none⟩) := by rw [r2]; exact f1
        simp only [execOp, r1, hax, Instr.storeAt, Instr.sureAddr, storeVar, Sem.run_bind, Sem.run_pure, Result.andThen_ok, (tyCells_some r4 w).2, c1, hn, ne_eq, not_true, if_false, hstore]
      unfold Oper.wp
      rw [hrun]
      have hput : a.put o.dst undef = a := by rw [q3]; rfl
      show I _ (a.put o.dst undef) _
      rw [hput]
      have hnx : ∀ t, get (pst σ 0 l (ks.map SegK.sv) f) t = get (pst σ 0 l (ks.map SegK.sv) (fun i => i == j || f i)) t := fun t => by have := next t; rw [q3] at this; exact this
      have hoth : ∀ k, k ≠ b → (w.setRow b (a.eval y).cells).heap[k]? = w.heap[k]? := fun k hk => setRow_other w b k _ hk
      refine ⟨g, ho1.get_eq fun t => .inl (hnx t).symm, fun i q s hi hfi => ?_, fun i i2 q q' s s' hi hi2 hne hf1 hf2 => ?_⟩
      · have hij : i ≠ j := fun e => by subst e; rw [hk] at hi; cases hi
        have hfi' := hmk i hfi hij
        by_cases him : i = m
        · subst him
          rw [q4] at hi; injection hi with hi; injection hi with hi hi'; subst hi; subst hi'
          have hh2 : holds (fun i => i == j || f i) p (some j) = p.cs := by simp [holds]
          rw [hh2]
          exact ⟨b, (a.eval y).cells, f1, setRow_heap w b us _ p.t (0, 0) f2, c1, c2, fun jj u s hu hs => ho2 (c3 jj u s hu hs), f3, f4, f5, by rw [setRow_size]; exact f6⟩
        · have hne' : ∀ st, s = some st → st ≠ j := fun st hst hsj => by
            subst hst; subst hsj
            obtain ⟨o', ho'⟩ := hlk hi
            have : ks[st]? = some (.st (0 + i) q) := (hat i o' _ ho' hi).2.2.2.2.2.2
            simp only [Nat.zero_add] at this
            rw [hk] at this
            injection this with this; injection this with e1 e2
            exact him e1.symm
          have hh2 : holds (fun i => i == j || f i) q s = holds f q s := by
            cases s with
            | none => rfl
            | some st =>
              have : (st == j) = false := by simpa using hne' st rfl
              simp only [holds, this, Bool.false_or]
          rw [hh2]
          obtain ⟨b2, us2, g1, g2, y1, y2, y3, g3, g4, g5, g6⟩ := h2 i q s hi hfi'
          have hbb : b2 ≠ b := fun e => by
            have := h3 i m q p s _ hi q4 him hfi' hfm
            rw [g1, f1, e] at this; exact this rfl
          exact ⟨b2, us2, g1, (hoth b2 hbb).trans g2, y1, y2, fun jj u s hu hs => ho2 (y3 jj u s hu hs), g3, g4, g5, by rw [setRow_size]; exact g6⟩
      · have hij : i ≠ j := fun e => by subst e; rw [hk] at hi; cases hi
        have hij2 : i2 ≠ j := fun e => by subst e; rw [hk] at hi2; cases hi2
        exact h3 i i2 q q' s s' hi hi2 hne (hmk i hf1 hij) (hmk i2 hf2 hij2)
  · refine Nat.le_trans (List.length_filter_le _ _) (by simp)
  · intro j o hj hl
    have hjl : j < l.length := (List.getElem?_eq_some_iff.1 hj).1
    rw [Array.getD_eq_getD_getElem?, Array.getElem?_eq_getElem (by simpa using hjl)] at hl
    simp at hl
  · rw [Array.getD_eq_getD_getElem?, Array.getElem?_eq_getElem (by simpa using hi)]
    simp
  · obtain ⟨g', hg'⟩ := hd
    have hf0 : ∀ i, i < l.length → (Array.replicate l.toArray.size false).getD i true = false := fun i hi => by
      rw [Array.getD_eq_getD_getElem?, Array.getElem?_eq_getElem (by simpa using hi)]; simp
    refine ⟨g', hg'.get_eq fun t => .inl ?_, fun j p st hj hf => ?_, fun i j p q s s' hi _ _ hf _ => ?_⟩
    · rw [pst_congr t l (ks.map SegK.sv) σ σ 0 _ (fun _ => false) rfl (fun i o hi hne => ?_), pst_none]
      rw [Nat.zero_add, hf0 i (List.getElem?_eq_some_iff.1 hi).1] at hne
      exact absurd rfl hne
    · have := hf0 j (by have := (List.getElem?_eq_some_iff.1 hj).1; omega)
      simp only [this] at hf; cases hf
    · have := hf0 i (by have := (List.getElem?_eq_some_iff.1 hi).1; omega)
      simp only [this] at hf; cases hf
end Go.Sx
/- The engine: struct literals of whatever parts; the least of two. -/
namespace Go.Sx
open Go.RowKit

def placesOf (P : Program) (t : TypeId) : Option (List (Nat × Nat)) :=
  match P.underlying t with
  | some (.struct fs) => fs.toList.mapM fun f => (P.info? f.type).map fun i => (f.offset, i.size)
  | _ => none
/-- the cells with parts laid into them -/
def fillL {α : Type} (pl : List (Nat × Nat)) : List α → List (Nat × List α) → Option (List α)
  | cs, [] => some cs
  | cs, (i, vs) :: r => match pl[i]? with
    | some (off, size) => match Nat.beq vs.length size && Nat.ble (off + vs.length) cs.length with
      | true => fillL pl (cs.take off ++ vs ++ cs.drop (off + vs.length)) r
      | false => none
    | none => none

theorem foldl_set : ∀ (l : List Value) (off k : Nat) (cells : Array Value), off + k + l.length ≤ cells.size →
    ((l.zipIdx k).foldl (fun cs (x : Value × Nat) => cs.setIfInBounds (off + x.2) x.1) cells).toList = cells.toList.take (off + k) ++ l ++ cells.toList.drop (off + k + l.length)
  | [], off, k, cells, _ => by simp
  | v :: l, off, k, cells, h => by
    have hl : off + k < cells.size := by simp at h; omega
    simp only [List.zipIdx_cons, List.foldl_cons]
    rw [foldl_set l off (k + 1) _ (by simp at h ⊢; omega)]
    have e1 : (cells.setIfInBounds (off + k) v).toList = cells.toList.take (off + k) ++ v :: cells.toList.drop (off + k + 1) := by
      rw [Array.toList_setIfInBounds, List.set_eq_take_append_cons_drop, if_pos (by simpa using hl)]
    have e2 : (cells.toList.take (off + k)).length = off + k := by rw [List.length_take, Array.length_toList]; omega
    rw [e1, show off + (k + 1) = off + k + 1 by omega]
    have e5 : cells.toList.drop (off + k + 1 + l.length) = (cells.toList.drop (off + k + 1)).drop l.length := by rw [List.drop_drop]
    rw [List.length_cons, show off + k + (l.length + 1) = off + k + 1 + l.length by omega, e5]
    generalize cells.toList.take (off + k) = A at *
    generalize cells.toList.drop (off + k + 1) = B at *
    rw [List.take_append, List.drop_append, e2, List.take_of_length_le (by omega), List.drop_eq_nil_of_le (by omega : A.length ≤ off + k + 1 + l.length)]
    rw [show off + k + 1 - (off + k) = 1 by omega, show off + k + 1 + l.length - (off + k) = l.length + 1 by omega]
    simp

theorem fill_rep {α : Type} {R : Value → α → Prop} {pl : List (Nat × Nat)} : ∀ (ps : List (Nat × Value)) (ss : List (Nat × List α)) (cells : Array Value) (cs cs' : List α), ps.length = ss.length →
    (∀ (j : Nat) p q, ps[j]? = some p → ss[j]? = some q → p.1 = q.1 ∧ p.2.cells.size = q.2.length ∧ ∀ (i : Nat) u s, p.2.cells[i]? = some u → q.2[i]? = some s → R u s) →
    cells.size = cs.length → (∀ (i : Nat) u s, cells[i]? = some u → cs[i]? = some s → R u s) → fillL pl cs ss = some cs' →
    ∃ cells', Instr.fill (pl.toArray[·]?) cells ps = some cells' ∧ cells'.size = cs'.length ∧ ∀ (i : Nat) u s, cells'[i]? = some u → cs'[i]? = some s → R u s
  | [], [], cells, cs, cs', _, _, hs, hr, h => by simp only [fillL, Option.some.injEq] at h; subst h; exact ⟨cells, rfl, hs, hr⟩
  | (i, v) :: ps, (i', vs) :: ss, cells, cs, cs', hl, hp, hs, hr, h => by
    obtain ⟨q1, q2, q3⟩ := hp 0 _ _ rfl rfl
    simp only at q1 q2 q3
    subst q1
    unfold fillL at h
    split at h
    · rename_i off size hpl
      split at h
      · rename_i hc
        rw [Bool.and_eq_true] at hc
        have c1 := Nat.eq_of_beq_eq_true hc.1
        have c2 := Nat.le_of_ble_eq_true hc.2
        have hfold := foldl_set v.cells.toList off 0 cells (by rw [Array.length_toList]; omega)
        have hz : (v.cells.zipIdx.foldl (fun cs (x : Value × Nat) => cs.setIfInBounds (off + x.2) x.1) cells).toList = cells.toList.take off ++ v.cells.toList ++ cells.toList.drop (off + v.cells.size) := by
          rw [← Array.foldl_toList, Array.toList_zipIdx]
          simpa using hfold
        have hsz : (v.cells.zipIdx.foldl (fun cs (x : Value × Nat) => cs.setIfInBounds (off + x.2) x.1) cells).size = cells.size := by
          rw [← Array.length_toList, hz]; simp; omega
        obtain ⟨cells', r1, r2, r3⟩ := fill_rep (R := R) ps ss (v.cells.zipIdx.foldl (fun cs (x : Value × Nat) => cs.setIfInBounds (off + x.2) x.1) cells) _ cs' (by simpa using hl) (fun j p q h1 h2 => hp (j + 1) p q (by simpa using h1) (by simpa using h2)) (by rw [hsz]; simp; omega) (fun j u s hu hsj => by
          rw [← Array.getElem?_toList, hz] at hu
          have e1 : (cells.toList.take off).length = off := by rw [List.length_take, Array.length_toList]; omega
          have e2 : (cs.take off).length = off := by rw [List.length_take]; omega
          rcases Nat.lt_or_ge j off with hj | hj
          · rw [List.append_assoc, List.getElem?_append_left (by omega), List.getElem?_take, if_pos hj] at hu hsj
            exact hr j u s (by simpa using hu) hsj
          · rw [List.append_assoc, List.getElem?_append_right (by omega)] at hu hsj
            rw [e1] at hu; rw [e2] at hsj
            rcases Nat.lt_or_ge (j - off) vs.length with hj2 | hj2
            · rw [List.getElem?_append_left (by first | omega | (rw [Array.length_toList]; omega))] at hu hsj
              exact q3 (j - off) u s (by simpa using hu) hsj
            · rw [List.getElem?_append_right (by first | omega | (rw [Array.length_toList]; omega))] at hu hsj
              rw [Array.length_toList, q2] at hu
              simp only [List.getElem?_drop] at hu hsj
              exact hr (off + vs.length + (j - off - vs.length)) u s (by simpa using hu) hsj) h
        refine ⟨cells', ?_, r2, r3⟩
        have hpl' : pl.toArray[i]? = some (off, size) := by simpa using hpl
        have hcond : (decide (v.cells.size ≠ size) || decide (off + v.cells.size > cells.size)) = false := by simp; omega
        simp only [Instr.fill, hpl', hcond, Bool.false_eq_true, if_false]
        exact r1
      · cases h
    · cases h
  | [], _ :: _, _, _, _, hl, _, _, _, _ => by simp at hl
  | _ :: _, [], _, _, _, hl, _, _, _, _ => by simp at hl

theorem built_rep {P : Program} {t : TypeId} {pl : List (Nat × Nat)} {zs : List Value} {α : Type} {R : Value → α → Prop} {ps : List (Nat × Value)} {ss : List (Nat × List α)} {cs cs' : List α} (hpl : placesOf P t = some pl) (hz : zeroOf P t = some zs) (hl : ps.length = ss.length)
    (hp : ∀ (j : Nat) p q, ps[j]? = some p → ss[j]? = some q → p.1 = q.1 ∧ p.2.cells.size = q.2.length ∧ ∀ (i : Nat) u s, p.2.cells[i]? = some u → q.2[i]? = some s → R u s)
    (hzl : zs.length = cs.length) (hzr : ∀ (i : Nat) u s, zs[i]? = some u → cs[i]? = some s → R u s) (h : fillL pl cs ss = some cs') : ∃ cells', P.built t ps = some cells' ∧ cells'.size = cs'.length ∧ ∀ (i : Nat) u s, cells'[i]? = some u → cs'[i]? = some s → R u s := by
  unfold placesOf at hpl
  split at hpl
  · rename_i fs hfs
    unfold zeroOf at hz
    split at hz
    · rename_i it hit
      split at hz
      · rename_i z hzz
        split at hz
        · injection hz with hz; subst hz
          obtain ⟨cells', r1, r2⟩ := fill_rep (R := R) (pl := pl) ps ss z.cells cs cs' hl hp (by simpa using hzl) (fun i u s hu hs => hzr i u s (by simpa using hu) hs) h
          exact ⟨cells', by simp only [Program.built, hit, hfs, hzz, hpl]; exact r1, r2⟩
        · cases hz
      · cases hz
    · cases hz
  · cases hpl

/-- the parts' cells, as they are read -/
def partsD (η : List Ob) (σ : Sl) : List (Nat × Operand) → List (Nat × D) → Prop
  | [], [] => True
  | (i, x) :: r, (j, d) :: s => Nat.beq i j = true ∧ Co η (oval σ x) d ∧ okc d = true ∧ partsD η σ r s
  | _, _ => False
theorem PD_nil {η : List Ob} {σ : Sl} : partsD η σ [] [] := trivial
theorem PD_d {η : List Ob} {σ : Sl} {i : Nat} {x : Operand} {d : D} {r : List (Nat × Operand)} {s : List (Nat × D)} (h : oval σ x = .d d) (ho : okc d = true) (k : partsD η σ r s) : partsD η σ ((i, x) :: r) ((i, d) :: s) := ⟨by simp, by rw [h]; rfl, ho, k⟩
theorem PD_n {η : List Ob} {σ : Sl} {i : Nat} {x : Operand} {r : List (Nat × Operand)} {s : List (Nat × D)} (h : oval σ x = .nil) (k : partsD η σ r s) : partsD η σ ((i, x) :: r) ((i, .slice []) :: s) := ⟨by simp, by rw [h]; exact .inl rfl, rfl, k⟩
theorem PD_b {η : List Ob} {σ : Sl} {i : Nat} {x : Operand} {r : List (Nat × Operand)} {s : List (Nat × D)} {id n e sz : Nat} {ys : List D} (h : oval σ x = .buf id n) (ho : η[id]? = some (.buf false e sz ys)) (hn : n = ys.length) (k : partsD η σ r s) : partsD η σ ((i, x) :: r) ((i, .slice ys) :: s) := ⟨by simp, by rw [h]; exact Co_buf ho hn, rfl, k⟩

theorem partsD_rep {η : List Ob} {σ : Sl} {g : Gh} {w : World} {a : Act} (hi : Inv g w η) : ∀ (ps : List (Nat × Operand)) (ds : List (Nat × D)), (∀ p ∈ ps, RepS g w (a.eval p.2) (oval σ p.2)) → partsD η σ ps ds → (ps.map fun p => (p.1, a.eval p.2)).length = (ds.map fun p => (p.1, p.2.flat)).length ∧
    ∀ (j : Nat) p q, (ps.map fun p => (p.1, a.eval p.2))[j]? = some p → (ds.map fun p => (p.1, p.2.flat))[j]? = some q → p.1 = q.1 ∧ p.2.cells.size = q.2.length ∧ ∀ (i : Nat) u s, p.2.cells[i]? = some u → q.2[i]? = some s → RepD g.St w u s ∧ u.oneCell' = true
  | [], [], _, _ => ⟨rfl, fun j p q h => by simp at h⟩
  | (i, x) :: r, (j', d) :: s, ho, ⟨h1, h2, h3, h4⟩ => by
    obtain ⟨e1, e2⟩ := partsD_rep hi r s (fun p hp => ho p (by simp [hp])) h4
    have hr := h2.rep hi (ho (i, x) (by simp))
    refine ⟨by simpa using e1, fun j p q hp hq => ?_⟩
    cases j with
    | zero =>
      simp at hp hq; subst hp; subst hq
      have hc := RepS.cells (g := g) (w := w) (v := a.eval x) (s := .d d) hr (scells_ok h3)
      refine ⟨Nat.eq_of_beq_eq_true h1, by simpa using hc.1, fun i u s hu hs => ⟨?_, hc.2.1 u (Array.mem_of_getElem? hu)⟩⟩
      have hs' : (d.flat.map SV.d)[i]? = some (.d s) := by rw [List.getElem?_map]; simp only at hs; rw [hs]; rfl
      exact hc.2.2 i u (.d s) hu hs'
    | succ j => exact e2 j p q (by simpa using hp) (by simpa using hq)
  | [], _ :: _, _, h => h.elim
  | _ :: _, [], _, h => h.elim

section
variable {P : Program} {η : List Ob} {σ : Sl} {dst : Option Nat} {ty : TypeId} {pos : String} {after : Array Edge} {gd : Option (Nat × Bool)} {t : TypeId} {x y : Operand}
theorem Y_buildD {ps : List (Nat × Operand)} {ds : List (Nat × D)} {pl : List (Nat × Nat)} {zs : List Value} {cs : List D} (hpl : placesOf P t = some pl) (hz : zeroOf P t = some zs) (hp : partsD η σ ps ds) (hf : fillL pl (zs.map zdv) (ds.map fun p => (p.1, p.2.flat)) = some cs) :
    Ylds P η σ ⟨dst, .build t ps.toArray, ty, pos, after, gd⟩ (.d (.agg cs)) := by
  refine Ylds.same fun g w a hi h => ?_
  obtain ⟨e1, e2⟩ := partsD_rep (a := a) hi ps ds (fun p hp => h p.2 (by
    simp only [Op.operands, List.mem_toArray, List.mem_map]; exact ⟨p, hp, rfl⟩)) hp
  obtain ⟨cells', r1, r2, r3⟩ := built_rep (R := fun u d => RepD g.St w u d ∧ u.oneCell' = true) (cs := zs.map zdv) hpl hz e1 e2 (by simp) (fun i u s hu hs => by
    rw [List.getElem?_map, hu] at hs
    simp at hs; subst hs
    exact ⟨zdv_rep _ _ u, (zeroOf_one hz).1 u (List.mem_of_getElem? hu)⟩) hf
  have hall : ∀ (j : Nat) u, cells'[j]? = some u → u.oneCell' = true := fun j u hu => by
    have hj : j < cs.length := by rw [← r2]; exact (Array.getElem?_eq_some_iff.1 hu).1
    exact (r3 j u _ hu (List.getElem?_eq_getElem hj)).2
  refine ⟨.agg cells', ?_, ?_⟩
  · have := run_build (P := P) w t (ps.map fun p => (p.1, a.eval p.2)).toArray cells' (by simpa using r1)
    simp only [execOp, Sem.run_bind, List.map_toArray, this, Result.andThen_ok, Sem.run_pure]
  · have := RepD.agg (St := g.St) (w := w) cells'.toList cs (by simpa using r2) (fun u hu => by
      obtain ⟨j, hj, rfl⟩ := List.mem_iff_getElem.1 hu
      exact hall j _ (by rw [Array.getElem_toList]; exact Array.getElem?_eq_getElem _)) (fun j u d hu hd => (r3 j u d (by simpa using hu) hd).1)
    show RepD _ _ _ _
    simpa using this
theorem Y_min {k : IntKind} {m n : Int} {ts : Array TypeId} (hx : oval σ x = .d (.val (.int k m))) (hy : oval σ y = .d (.val (.int k n))) : Ylds P η σ ⟨dst, .call ⟨.builtin .min, #[x, y], ts⟩, ty, pos, after, gd⟩ (.d (.val (.int k (min m n)))) := by
  refine Ylds.same fun g w a hi h => ⟨.int k (min m n), ?_, .val _⟩
  have h1 := h x (by simp [Op.operands, Call.operands]); rw [hx] at h1
  have h2 := h y (by simp [Op.operands, Call.operands]); rw [hy] at h2
  simp [execOp, resolve, invoke, builtin, RepD.val_eq h1, RepD.val_eq h2, run_min_int2]; omega
end

/-- the parts' cells, whatever they are -/
def partsS (σ : Sl) : List (Nat × Operand) → List (Nat × List SV) → Prop
  | [], [] => True
  | (i, x) :: r, (j, cs) :: s => Nat.beq i j = true ∧ scells (oval σ x) = some cs ∧ partsS σ r s
  | _, _ => False
theorem PS_nil {σ : Sl} : partsS σ [] [] := trivial
theorem PS_cons {σ : Sl} {i : Nat} {x : Operand} {cs : List SV} {r : List (Nat × Operand)} {s : List (Nat × List SV)} (h : scells (oval σ x) = some cs) (k : partsS σ r s) : partsS σ ((i, x) :: r) ((i, cs) :: s) := ⟨by simp, h, k⟩
theorem partsS_rep {σ : Sl} {g : Gh} {w : World} {a : Act} : ∀ (ps : List (Nat × Operand)) (ss : List (Nat × List SV)), (∀ p ∈ ps, RepS g w (a.eval p.2) (oval σ p.2)) → partsS σ ps ss → (ps.map fun p => (p.1, a.eval p.2)).length = ss.length ∧
    ∀ (j : Nat) p q, (ps.map fun p => (p.1, a.eval p.2))[j]? = some p → ss[j]? = some q → p.1 = q.1 ∧ p.2.cells.size = q.2.length ∧ ∀ (i : Nat) u s, p.2.cells[i]? = some u → q.2[i]? = some s → RepS g w u s ∧ u.oneCell' = true
  | [], [], _, _ => ⟨rfl, fun j p q h => by simp at h⟩
  | (i, x) :: r, (j', cs) :: s, ho, ⟨h1, h2, h4⟩ => by
    obtain ⟨e1, e2⟩ := partsS_rep r s (fun p hp => ho p (by simp [hp])) h4
    have hc := (ho (i, x) (by simp)).cells h2
    refine ⟨by simpa using e1, fun j p q hp hq => ?_⟩
    cases j with
    | zero =>
      simp at hp hq; subst hp; subst hq
      exact ⟨Nat.eq_of_beq_eq_true h1, hc.1, fun i u s hu hs => ⟨hc.2.2 i u s hu hs, hc.2.1 u (Array.mem_of_getElem? hu)⟩⟩
    | succ j => exact e2 j p q (by simpa using hp) (by simpa using hq)
  | [], _ :: _, _, h => h.elim
  | _ :: _, [], _, h => h.elim

section
variable {C : Ctx} {ops : Array Oper} {rest : List Oper} {K : Sl → List Ob → Prop} {σ : Sl} {η : List Ob} {d d2 : Nat} {ty ty2 : TypeId} {pos pos2 : String} {after after2 : Array Edge} {t : TypeId}
/-- '&T{..}': the struct is built, and lies in a box of its own -/
theorem aBuildBox {ps : List (Nat × Operand)} {ss : List (Nat × List SV)} {pl : List (Nat × Nat)} {zs : List Value} {cs : List SV} (hpl : placesOf C.P t = some pl) (hz : zeroOf C.P t = some zs) (hp : partsS σ ps ss) (hf : fillL pl (zs.map cst) ss = some cs)
    (hd : Nat.blt d C.N = true) (hd2 : Nat.blt d2 C.N = true) (hro : Nat.ble C.ro η.length = true) (h : alex C false ops rest K ((d2, .ptr η.length 0) :: (d, .top) :: σ) (η ++ [.bx none (some t) cs])) :
    alex C false ops (⟨some d, .build t ps.toArray, ty, pos, after, none⟩ :: ⟨some d2, .box t (.tmp d), ty2, pos2, after2, none⟩ :: rest) K σ η := by
  refine w0 ?_
  intro Q hQ a w ⟨g, ha⟩ K' hK'
  obtain ⟨e1, e2⟩ := partsS_rep (g := g) (w := w) (a := a) ps ss (fun p _ => ha.eval p.2) hp
  obtain ⟨cells', r1, r2, r3⟩ := built_rep (R := fun u s => RepS g w u s ∧ u.oneCell' = true) (cs := zs.map cst) hpl hz e1 e2 (by simp) (fun i u s hu hs => by
    rw [List.getElem?_map, hu] at hs
    simp at hs; subst hs
    exact ⟨RepS.cst _ _ u, (zeroOf_one hz).1 u (List.mem_of_getElem? hu)⟩) hf
  have hall : ∀ u ∈ cells', u.oneCell' = true := fun u hu => by
    obtain ⟨j, hj, rfl⟩ := Array.mem_iff_getElem.1 hu
    have hjc : j < cs.length := by rw [← r2]; exact hj
    exact (r3 j _ _ (Array.getElem?_eq_getElem hj) (List.getElem?_eq_getElem hjc)).2
  have hrun : (execOp a.eval ⟨some d, .build t ps.toArray, ty, pos, after, none⟩).run C.P w = .ok (.value (.agg cells')) w := by
    have := run_build (P := C.P) w t (ps.map fun p => (p.1, a.eval p.2)).toArray cells' (by simpa using r1)
    simp only [execOp, Sem.run_bind, List.map_toArray, this, Result.andThen_ok, Sem.run_pure]
  unfold Oper.wp
  rw [hrun]
  refine hK' _ _ ?_
  have ha1 := ha.put (d := some d) (v := .agg cells') (s := .top) hd trivial
  have hev : (a.put (some d) (.agg cells')).eval (.tmp d) = .agg cells' := by
    have hlt : d < a.tmps.size := by rw [ha.size]; simpa [Nat.blt_eq] using hd
    simp [Act.eval, Act.put, hlt]
  refine wpList_step fun K2 hK2 => ?_
  rw [if_pos (show Region.wanted ⟨some d2, .box t (.tmp d), ty2, pos2, after2, none⟩ _ = true from rfl)]
  unfold Oper.wp
  have hrun2 : (execOp (a.put (some d) (.agg cells')).eval ⟨some d2, .box t (.tmp d), ty2, pos2, after2, none⟩).run C.P w = .ok (.value (.pointer (some ⟨w.heap.size, 0, none⟩))) (w.alloc (.cells cells' t)) := by
    simp only [execOp, hev]
    simp [Instr.box, newVar, newRow, Value.cells]
  rw [hrun2]
  exact hK2 _ _ (h Q hQ _ _ (absBoxT (some t) ha1 t (fun _ h => (Option.some.inj h).symm) cells' cs hd2 (Nat.le_of_ble_eq_true hro) r2 hall (fun j u s hu hs => (r3 j u s hu hs).1)))
end
end Go.Sx
/- The engine: one field of an element of a row is written; a list that isn't empty held against nil. -/
namespace Go.Sx
open Go.RowKit

theorem flats_set {sz o : Nat} {cs : List D} {c : D} : ∀ {xs : List D} {i : Nat}, (∀ x ∈ xs, x.flat.length = sz) → xs[i]? = some (.agg cs) → o < cs.length → flats (xs.set i (.agg (cs.set o c))) = (flats xs).set (i * sz + o) c
  | x :: r, 0, _, hi, ho => by
    simp at hi; subst hi
    simp only [flats, List.set_cons_zero, List.flatMap_cons, D.flat, Nat.zero_mul, Nat.zero_add]
    rw [List.set_append, if_pos ho]
  | x :: r, i + 1, hf, hi, ho => by
    have h1 := hf x (by simp)
    have ih := flats_set (sz := sz) (o := o) (c := c) (xs := r) (i := i) (fun y hy => hf y (by simp [hy])) (by simpa using hi) ho
    simp only [flats, List.set_cons_succ, List.flatMap_cons] at ih ⊢
    rw [ih, List.set_append, if_neg (by rw [h1, Nat.add_mul]; omega), h1]
    rw [show (i + 1) * sz + o - sz = i * sz + o by rw [Nat.add_mul]; omega]
  | [], _, _, hi, _ => by simp at hi

section
variable {C : Ctx} {ops : Array Oper} {rest : List Oper} {K : Sl → List Ob → Prop} {σ : Sl} {η : List Ob} {d : Nat} {ty : TypeId} {pos : String} {after : Array Edge} {gd : Option (Nat × Bool)} {t : TypeId} {x y : Operand}
theorem aStoreBF {id i o n e sz : Nat} {xs : List D} {cs : List D} {c : D} (hx : oval σ x = .bptr id i o) (hy : oval σ y = .d c) (hc : one (.d c) = true) (ht : tyCells C.P t = some (false, n)) (hn : Nat.beq n 1 = true) (ho : η[id]? = some (.buf true e sz xs)) (hi : xs[i]? = some (.agg cs)) (hol : Nat.blt o cs.length = true) (hro : Nat.ble C.ro id = true)
    (h : alex C false ops rest K σ (η.set id (.buf true e sz (xs.set i (.agg (cs.set o c)))))) : astep C false ops ⟨none, .store t x y, ty, pos, after, gd⟩ rest K σ η := by
  have hn := Nat.eq_of_beq_eq_true hn
  subst hn
  have hol : o < cs.length := by simpa using hol
  refine estep0 (fun g a w ha => ?_) h
  have hp := ha.eval x; rw [hx] at hp
  have hr := ha.eval y; rw [hy] at hr
  obtain ⟨hid, b, hb, hpv⟩ := hp
  obtain ⟨o1, o2, o3, o4, o5⟩ := ha.inv.ob id _ ho
  have hil : i < xs.length := (List.getElem?_eq_some_iff.1 hi).1
  have hcl : cs.length = sz := o2 _ (List.mem_of_getElem? hi)
  rcases o5 with ⟨h1, _⟩ | ⟨b', us, h1, h2, h3, h4, h5, h6⟩
  · rw [h1] at hb; cases hb
  · rw [hb] at h1; injection h1 with h1; subst h1
    obtain ⟨c1, c2⟩ := RepS.one (g := g) (w := w) (s := .d c) hr hc
    have hpos : i * sz + o < xs.length * sz := by
      have := Nat.mul_le_mul_right sz (show i + 1 ≤ xs.length by omega)
      rw [Nat.add_mul] at this; omega
    have hcap : xs.length * sz ≤ us.size := by rw [h3]; exact Nat.mul_le_mul_right _ o4
    have hst := run_storeCells_at C.P b (i * sz + o) e [a.eval y] 0 us w h2 (by simp; omega) (fun v hv => by simp at hv; subst hv; exact c2)
    simp only [Nat.add_zero, List.length_singleton] at hst
    have hus : (us.toList.take (i * sz + o) ++ [a.eval y] ++ us.toList.drop (i * sz + o + 1)).toArray = us.setIfInBounds (i * sz + o) (a.eval y) := by
      apply Array.ext'
      rw [Array.toList_setIfInBounds, List.set_eq_take_append_cons_drop, if_pos (by rw [Array.length_toList]; omega)]
      simp
    rw [hus] at hst
    have hfl := flats_set (c := c) o2 hi hol
    have hset : ∀ x ∈ xs.set i (.agg (cs.set o c)), x.flat.length = sz := fun x hx => by
      rcases List.mem_or_eq_of_mem_set hx with h | h
      · exact o2 x h
      · rw [h]; simp [D.flat, hcl]
    refine ⟨_, ?_, g, ha.writeBuf (us' := us.setIfInBounds (i * sz + o) (a.eval y)) ho (Nat.le_of_ble_eq_true hro) hb h2 (fun o hc => by have := (h6 o).1 hc; cases this.1) hset (by rw [List.length_set]; exact o4) (by simp) h3 (fun j u hj hu => ?_) (fun j u d' hu hd' => ?_)⟩
    · rw [o1] at hpv
      simp only [execOp, hpv, Instr.storeAt, Instr.sureAddr, storeVar, Sem.run_bind, Sem.run_pure, Result.andThen_ok, (tyCells_some ht w).2, c1, ne_eq]
      simp [hst]
    · rw [List.length_set] at hj
      rw [Array.getElem?_setIfInBounds] at hu
      split at hu
      · split at hu
        · injection hu with hu; subst hu; exact c2
        · cases hu
      · exact h4 j u hj hu
    · rw [hfl, List.getElem?_set] at hd'
      rw [Array.getElem?_setIfInBounds] at hu
      split at hu
      · rename_i hj
        subst hj
        rw [if_pos (by omega)] at hu
        injection hu with hu; subst hu
        rw [if_pos rfl, if_pos (by rw [flats_len o2]; omega)] at hd'
        injection hd' with hd'; subst hd'; exact hr
      · rename_i hj
        rw [if_neg hj] at hd'
        exact h5 j u d' hu hd'

variable {P : Program} {dst : Option Nat} {yt : TypeId}
theorem Y_eqnilF {xs : List D} (hx : oval σ x = .d (.slice xs)) (hy : oval σ y = .nil) (hne : xs ≠ []) (hu : (elemTy P t).isSome = true) : Ylds P η σ ⟨dst, .binOp .eql t x y yt, ty, pos, after, gd⟩ (.d (.val (.bool false))) := by
  obtain ⟨e, he⟩ := Option.isSome_iff_exists.1 hu
  refine Ylds.same fun g w a hi h => ⟨.bool false, ?_, .val _⟩
  have h1 := h x (by simp [Op.operands]); rw [hx] at h1
  have h2 := h y (by simp [Op.operands]); rw [hy] at h2
  change RepD _ _ _ _ at h1
  change _ = _ at h2
  generalize hv : a.eval x = v at h1
  cases h1 with
  | slice ad len cap sz _ us hlen hcap hm hsz hus hone hcell =>
    obtain ⟨ad', rfl, _⟩ := hcell (List.length_pos_iff.2 hne)
    have hg : (eqGuard .eql t x y (.slice (some ad') len cap) (.slice none 0 0)).run P w = .ok () w := by first | rfl | simp [eqGuard] | simp [go_sem]
    have hq : (binOp .eql t (.slice (some ad') len cap) (.slice none 0 0)).run P w = .ok (.bool false) w := by
      have := run_equal_slice_nil (P := P) (w := w) t e (some ad') len cap (elemTy_some he)
      simp [go_sem, binOp, this]
    simp only [execOp, hv, h2, Sem.run_bind, hg, hq, Result.andThen_ok, Sem.run_pure]
end
end Go.Sx
