/- The engine: make, copy, slices of slices, places in rows; closures that read what they hold. -/
import Derived.Test.YtbegnjhfhnaagaaDoorSxI
namespace Go.Sx
open Go.RowKit

section
variable {P : Program} {η : List Ob} {σ : Sl} {dst : Option Nat} {ty : TypeId} {pos : String} {after : Array Edge} {gd : Option (Nat × Bool)} {t : TypeId} {x y z : Operand}

theorem flats_drop {sz : Nat} : ∀ {xs : List D} (_ : ∀ x ∈ xs, x.flat.length = sz) (n : Nat), flats (xs.drop n) = (flats xs).drop (n * sz)
  | [], _, n => by simp [flats]
  | x :: r, h, 0 => by simp [flats]
  | x :: r, h, n + 1 => by
    have h1 := h x (by simp)
    have ih := flats_drop (sz := sz) (xs := r) (fun y hy => h y (by simp [hy])) n
    simp only [flats, List.drop_succ_cons, List.flatMap_cons] at ih ⊢
    rw [ih, List.drop_append]
    have e1 : x.flat.drop ((n + 1) * sz) = [] := List.drop_of_length_le (by rw [h1, Nat.add_mul]; omega)
    have e2 : (n + 1) * sz - x.flat.length = n * sz := by rw [h1, Nat.add_mul]; omega
    rw [e1, e2, List.nil_append]

/-- a piece of a slice -/
theorem piece {St : Stab} {w : World} {v : Value} {xs : List D} (h : RepD St w v (.slice xs)) {sz l n : Nat} (hf : ∀ x ∈ xs, x.flat.length = sz) (hl : l ≤ n) (hn : n ≤ xs.length) :
    ∃ (a : Option Addr) (cap : Nat), v = .slice a xs.length cap ∧ xs.length ≤ cap ∧ RepD St w (.slice (if cap = l then a else a.map (·.add (l * sz))) (n - l) (cap - l)) (.slice ((xs.take n).drop l)) := by
  obtain ⟨a, cap, us, rfl, hc, hm, hul, h1, hcell, hr⟩ := h.open_slice hf
  refine ⟨a, cap, rfl, hc, ?_⟩
  have hft : ∀ x ∈ xs.take n, x.flat.length = sz := fun x hx => hf x (List.mem_of_mem_take hx)
  have hlen : ((xs.take n).drop l).length = n - l := by rw [List.length_drop, List.length_take]; omega
  have hmul : n * sz ≤ xs.length * sz := Nat.mul_le_mul_right _ hn
  have hmul2 : l * sz ≤ n * sz := Nat.mul_le_mul_right _ hl
  have e3 : (n - l) * sz = n * sz - l * sz := Nat.sub_mul ..
  refine .slice _ _ _ sz _ ((us.take (n * sz)).drop (l * sz)) hlen.symm (by omega) (by omega) (fun x hx => hft x (List.mem_of_mem_drop hx)) ?_ (fun u hu => h1 u (List.mem_of_mem_take (List.mem_of_mem_drop hu))) (fun h0 => ?_) (fun j u d hu hd => ?_)
  · rw [flats_drop hft, flats_take hf, List.length_drop, List.length_drop, List.length_take, List.length_take, flats_len hf, hul]
  · rw [hlen] at h0
    obtain ⟨ad, rfl, hcc⟩ := hcell (by omega)
    rw [if_neg (by omega)]
    refine ⟨ad.add (l * sz), rfl, fun j u hj => ?_⟩
    rw [list_drop_get, List.getElem?_take] at hj
    split at hj
    · exact (hcc _ _ hj).shift
    · cases hj
  · rw [flats_drop hft, flats_take hf] at hd
    rw [list_drop_get, List.getElem?_take] at hu hd
    split at hu
    · rename_i hlt; rw [if_pos hlt] at hd; exact hr _ _ _ hu hd
    · cases hu

theorem run_sliceAt {t e : TypeId} {i : TypeInfo} (hu : P.underlying t = some (.slice e)) (hi : P.info? e = some i) (a : Option Addr) (len cap l h : Nat) (lo hi' : Option Value) (hlo : (lo = none ∧ l = 0) ∨ ∃ k, lo = some (.int k (l : Int))) (hhi : (hi' = none ∧ h = len) ∨ ∃ k, hi' = some (.int k (h : Int)))
    (h1 : l ≤ h) (h2 : h ≤ cap) (w : World) : (Instr.sliceAt t (.slice a len cap) lo hi' none).run P w = .ok (.slice (if cap = l then a else a.map (·.add (l * i.size))) (h - l) (cap - l)) w := by
  rcases hlo with ⟨rfl, rfl⟩ | ⟨k, rfl⟩ <;> rcases hhi with ⟨rfl, rfl⟩ | ⟨k', rfl⟩ <;>
    simp [Instr.sliceAt, Instr.slice, Instr.sliceBounds, Instr.sliceBound, run_underlying hu, sizeOf, typeInfo, hi, asIntOf, h1, h2, Int.ofNat_le]

variable {α : Type} {enc : α → D} {L : List α}
theorem Y_slice0 {sz l n : Nat} {lo hi : Option Operand} {xs : List D} (hc : Co η (oval σ x) (.slice xs)) (hs : elemSize P t = some sz) (hf : ∀ d ∈ xs, d.flat.length = sz)
    (hlo : (lo = none ∧ l = 0) ∨ ∃ o k, lo = some o ∧ oval σ o = .d (.val (.int k (l : Int)))) (hhi : (hi = none ∧ n = xs.length) ∨ ∃ o k, hi = some o ∧ oval σ o = .d (.val (.int k (n : Int)))) (h1 : l ≤ n) (h2 : n ≤ xs.length) :
    Ylds P η σ ⟨dst, .slice t x lo hi none, ty, pos, after, gd⟩ (.d (.slice ((xs.take n).drop l))) := by
  obtain ⟨e, i, hu, hi', hsz⟩ := elemSize_some hs
  refine Ylds.same fun g w a hi h => ?_
  have hr := hc.rep hi (h x (by simp [Op.operands]))
  obtain ⟨b, cap, hv, hcap, hrep⟩ := piece hr hf h1 h2
  refine ⟨_, ?_, hrep⟩
  simp only [execOp, hv, Sem.run_bind, Sem.run_pure, Option.map_none]
  rw [run_sliceAt hu hi' b xs.length cap l n _ _ ?_ ?_ h1 (by omega), hsz]
  · rfl
  · rcases hlo with ⟨rfl, rfl⟩ | ⟨o, k, rfl, ho⟩
    · exact .inl ⟨rfl, rfl⟩
    · have := h o (by simp [Op.operands]); rw [ho] at this
      exact .inr ⟨k, by simp [RepD.val_eq this]⟩
  · rcases hhi with ⟨rfl, rfl⟩ | ⟨o, k, rfl, ho⟩
    · exact .inl ⟨rfl, rfl⟩
    · have := h o (by simp [Op.operands]); rw [ho] at this
      exact .inr ⟨k, by simp [RepD.val_eq this]⟩

theorem Y_sl {sz : Nat} {l n : Int} {k k' : IntKind} (hc : Co η (oval σ x) (.slice (L.map enc))) (hs : elemSize P t = some sz) (hlo : oval σ y = .d (.val (.int k l))) (hhi : oval σ z = .d (.val (.int k' n))) (hf : ∀ v, (enc v).flat.length = sz)
    (h : 0 ≤ l ∧ l ≤ n ∧ n ≤ (L.length : Int)) : Ylds P η σ ⟨dst, .slice t x (some y) (some z) none, ty, pos, after, gd⟩ (.d (.slice (((L.take n.toNat).drop l.toNat).map enc))) := by
  have := Y_slice0 (dst := dst) (ty := ty) (pos := pos) (after := after) (gd := gd) (l := l.toNat) (n := n.toNat) (lo := some y) (hi := some z) hc hs (fun d hd => by obtain ⟨v, _, rfl⟩ := List.mem_map.1 hd; exact hf v)
    (.inr ⟨y, k, rfl, by rw [hlo, Int.toNat_of_nonneg h.1]⟩) (.inr ⟨z, k', rfl, by rw [hhi, Int.toNat_of_nonneg (by omega)]⟩) (by omega) (by rw [List.length_map]; omega)
  rwa [← List.map_take, ← List.map_drop] at this
theorem Y_sl_l {sz : Nat} {l : Int} {k : IntKind} (hc : Co η (oval σ x) (.slice (L.map enc))) (hs : elemSize P t = some sz) (hlo : oval σ y = .d (.val (.int k l))) (hf : ∀ v, (enc v).flat.length = sz)
    (h : 0 ≤ l ∧ l ≤ (L.length : Int)) : Ylds P η σ ⟨dst, .slice t x (some y) none none, ty, pos, after, gd⟩ (.d (.slice ((L.drop l.toNat).map enc))) := by
  have := Y_slice0 (dst := dst) (ty := ty) (pos := pos) (after := after) (gd := gd) (l := l.toNat) (n := (L.map enc).length) (lo := some y) (hi := none) hc hs (fun d hd => by obtain ⟨v, _, rfl⟩ := List.mem_map.1 hd; exact hf v)
    (.inr ⟨y, k, rfl, by rw [hlo, Int.toNat_of_nonneg h.1]⟩) (.inl ⟨rfl, rfl⟩) (by rw [List.length_map]; omega) (Nat.le_refl _)
  rwa [List.take_length, ← List.map_drop] at this
theorem Y_sl_h {sz : Nat} {n : Int} {k : IntKind} (hc : Co η (oval σ x) (.slice (L.map enc))) (hs : elemSize P t = some sz) (hhi : oval σ z = .d (.val (.int k n))) (hf : ∀ v, (enc v).flat.length = sz)
    (h : 0 ≤ n ∧ n ≤ (L.length : Int)) : Ylds P η σ ⟨dst, .slice t x none (some z) none, ty, pos, after, gd⟩ (.d (.slice ((L.take n.toNat).map enc))) := by
  have := Y_slice0 (dst := dst) (ty := ty) (pos := pos) (after := after) (gd := gd) (l := 0) (n := n.toNat) (lo := none) (hi := some z) hc hs (fun d hd => by obtain ⟨v, _, rfl⟩ := List.mem_map.1 hd; exact hf v)
    (.inl ⟨rfl, rfl⟩) (.inr ⟨z, k, rfl, by rw [hhi, Int.toNat_of_nonneg h.1]⟩) (by omega) (by rw [List.length_map]; omega)
  rwa [List.drop_zero, ← List.map_take] at this

/-- a row that may be written, cut at its end -/
theorem Y_sl_b {id m : Nat} {n : Int} {k : IntKind} (hx : oval σ x = .buf id m) (hs : (elemSize P t).isSome = true) (hhi : oval σ z = .d (.val (.int k n))) (h : 0 ≤ n ∧ n ≤ (m : Int)) (hcap : ∃ mu e sz xs, η[id]? = some (.buf mu e sz xs) ∧ m ≤ xs.length) :
    Ylds P η σ ⟨dst, .slice t x none (some z) none, ty, pos, after, gd⟩ (.buf id n.toNat) := by
  obtain ⟨sz, hs⟩ := Option.isSome_iff_exists.1 hs
  obtain ⟨e, i, hu, hi', hsz⟩ := elemSize_some hs
  obtain ⟨mu, e2, sz2, xs, ho, hm⟩ := hcap
  refine Ylds.same fun g w a hi hop => ?_
  have hr := hop x (by simp [Op.operands]); rw [hx] at hr
  obtain ⟨h1, h2⟩ := hr
  have hz := hop z (by simp [Op.operands]); rw [hhi] at hz
  obtain ⟨_, _, _, hcl, _⟩ := hi.ob id _ ho
  refine ⟨.slice ((g.blk id).map (⟨·, 0, none⟩)) n.toNat (g.cap id), ?_, h1, rfl⟩
  simp only [execOp, h2, Sem.run_bind, Sem.run_pure]
  have := run_sliceAt hu hi' ((g.blk id).map (⟨·, 0, none⟩)) m (g.cap id) 0 n.toNat none (some (a.eval z)) (.inl ⟨rfl, rfl⟩) (.inr ⟨k, by rw [RepD.val_eq hz, Int.toNat_of_nonneg h.1]⟩) (Nat.zero_le _) (by omega) w
  simp only [Option.map_none, Option.map_some, this, Result.andThen_ok, Nat.sub_zero]
  congr 3
  split
  · rfl
  · cases g.blk id <;> simp [Addr.add_lit]

/-! ### places in a row of the call's own -/
theorem Y_index_b {id m sz e : Nat} {mu : Bool} {n : Int} {k : IntKind} {xs : List D} (hx : oval σ x = .buf id m) (hy : oval σ y = .d (.val (.int k n))) (ho : η[id]? = some (.buf mu e sz xs)) (hs : elemSize P t = some sz) (h : 0 ≤ n ∧ n < (m : Int)) (hm : m ≤ xs.length) :
    Ylds P η σ ⟨dst, .indexAddr t x y, ty, pos, after, gd⟩ (.bptr id n.toNat 0) := by
  obtain ⟨e', i, hu, hi', hsz⟩ := elemSize_some hs
  refine Ylds.same fun g w a hi hop => ?_
  have hr := hop x (by simp [Op.operands]); rw [hx] at hr
  obtain ⟨h1, h2⟩ := hr
  have hz := hop y (by simp [Op.operands]); rw [hy] at hz
  obtain ⟨hgs, _, _, hcl, hb⟩ := hi.ob id _ ho
  have hbb : ∃ b, g.blk id = some b := by
    rcases hb with ⟨_, h0⟩ | ⟨b, _, hb, _⟩
    · omega
    · exact ⟨b, hb⟩
  obtain ⟨b, hb⟩ := hbb
  refine ⟨.pointer (some ⟨b, n.toNat * sz, none⟩), ?_, h1, b, hb, by rw [hgs]; rfl⟩
  simp [execOp, h2, RepD.val_eq hz, hb, Instr.indexAt, asIntOf, run_underlying hu, h.1, h.2, sizeOf, typeInfo, hi', hsz, Addr.add_lit]

theorem Y_field_bp {f off id i o : Nat} (hx : oval σ x = .bptr id i o) (hf : fieldOff P t f = some off) : Ylds P η σ ⟨dst, .fieldAddr t x f, ty, pos, after, gd⟩ (.bptr id i (o + off)) := by
  refine Ylds.same fun g w a hi h => ?_
  have h1 := h x (by simp [Op.operands]); rw [hx] at h1
  obtain ⟨hid, b, hb, hv⟩ := h1
  unfold fieldOff at hf
  split at hf
  · rename_i fs hfs
    split at hf
    · rename_i fl hfl
      split at hf
      · rename_i i hi'
        split at hf
        · cases hf
        · rename_i hne
          injection hf with hf
          subst hf
          refine ⟨.pointer (some ⟨b, _, none⟩), ?_, hid, b, hb, rfl⟩
          simp [execOp, hv, Instr.fieldAt, run_underlying hfs, hfl, Instr.sureAddr, fieldPlace, sizeOf, typeInfo, hi', hne, Addr.add_lit, Nat.add_assoc]
      · cases hf
    · cases hf
  · cases hf

theorem Y_load_b {id i o n e sz : Nat} {mu : Bool} {xs : List D} {d c : D} (hx : oval σ x = .bptr id i o) (ht : tyCells P t = some (false, n)) (ho : η[id]? = some (.buf mu e sz xs)) (hd : xs[i]? = some d) (hc : d.flat[o]? = some c) : Ylds P η σ ⟨dst, .load t x, ty, pos, after, gd⟩ (.d c) := by
  refine Ylds.same fun g w a hi h => ?_
  have h1 := h x (by simp [Op.operands]); rw [hx] at h1
  obtain ⟨hid, b, hb, hv⟩ := h1
  obtain ⟨hgs, hf, _, hcl, hbo⟩ := hi.ob id _ ho
  have hil : i < xs.length := (List.getElem?_eq_some_iff.1 hd).1
  have hol : o < sz := by rw [← hf d (List.mem_of_getElem? hd)]; exact (List.getElem?_eq_some_iff.1 hc).1
  have hmul : (i + 1) * sz ≤ xs.length * sz := Nat.mul_le_mul_right _ hil
  rw [Nat.add_mul] at hmul
  rcases hbo with ⟨h0, _⟩ | ⟨b', us, h2, h3, h4, h5, h6, _⟩
  · rw [hb] at h0; cases h0
  · rw [hb] at h2; injection h2 with h2; subst h2
    have hmul2 : xs.length * sz ≤ g.cap id * sz := Nat.mul_le_mul_right _ hcl
    have hlt : i * sz + o < us.size := by omega
    refine ⟨us[i * sz + o], ?_, h6 _ _ _ (Array.getElem?_eq_getElem hlt) ((flats_at hf hd hol).trans hc)⟩
    have hcell : w.cell? ⟨b, i * sz + o, none⟩ = some us[i * sz + o] := by rw [cell_of_row w b _ us e (0, 0) h3]; exact Array.getElem?_eq_getElem hlt
    simp [execOp, hv, hgs, Instr.loadAt, Instr.sureAddr, loadVar, (tyCells_some ht w).1, hcell]

/-! ### closures -/
def ptrIds : List SV → Option (List Nat)
  | [] => some []
  | .ptr i o :: r => match o with
    | 0 => match ptrIds r with
      | some l => some (i :: l)
      | none => none
    | _ + 1 => none
  | _ :: _ => none

theorem ptrIds_rep {g : Gh} {w : World} {f : Operand → Value} : ∀ {xs : List Operand} {ss : List SV} {ids : List Nat}, ss.length = xs.length → (∀ (j : Nat) (x : Operand) (s : SV), xs[j]? = some x → ss[j]? = some s → RepS g w (f x) s) → ptrIds ss = some ids →
    ids.length = xs.length ∧ ∀ (j id : Nat) (x : Operand), ids[j]? = some id → xs[j]? = some x → id < g.n ∧ ∃ b, g.blk id = some b ∧ f x = .pointer (some ⟨b, 0, none⟩)
  | [], [], ids, _, _, h => by simp [ptrIds] at h; subst h; exact ⟨rfl, fun j id x h => by simp at h⟩
  | x :: xs, s :: ss, ids, hl, hr, h => by
    have h0 := hr 0 x s rfl rfl
    cases s with
    | ptr i o =>
      cases o with
      | succ o => simp [ptrIds] at h
      | zero =>
        simp only [ptrIds] at h
        split at h
        · rename_i l hl'
          injection h with h; subst h
          obtain ⟨e1, e2⟩ := ptrIds_rep (g := g) (w := w) (f := f) (by simpa using hl) (fun j x s hx hs => hr (j + 1) x s (by simpa using hx) (by simpa using hs)) hl'
          refine ⟨by simp [e1], fun j id x' hj hx => ?_⟩
          match j with
          | 0 => simp at hj hx; subst hj; subst hx; exact h0
          | j + 1 => exact e2 j id x' (by simpa using hj) (by simpa using hx)
        · cases h
    | _ => simp [ptrIds] at h
  | [], _ :: _, _, hl, _, _ => by simp at hl
  | _ :: _, [], _, hl, _, _ => by simp at hl

theorem Y_mkf {f : FuncId} {xs : List Operand} {ids : List Nat} (h : ptrIds (xs.map (oval σ)) = some ids) : Ylds P η σ ⟨dst, .makeFunc (.func f) #[] xs.toArray, ty, pos, after, gd⟩ (.clo f ids) := by
  refine Ylds.same fun g w a hi hop => ?_
  obtain ⟨e1, e2⟩ := ptrIds_rep (g := g) (w := w) (f := a.eval) (xs := xs) (by simp) (fun j x s hx hs => by
    rw [List.getElem?_map, hx] at hs; simp at hs; subst hs
    exact hop x (by simp [Op.operands, List.mem_of_getElem? hx])) h
  refine ⟨.func (.func f) #[] (xs.map a.eval).toArray, ?_, xs.map a.eval, rfl, by simp [e1], fun j id u hj hu => ?_⟩
  · simp [execOp, Instr.makeFunc]
  · rw [List.getElem?_map] at hu
    cases hx : xs[j]? with
    | none => simp [hx] at hu
    | some x => simp [hx] at hu; subst hu; exact e2 j id x hj hx

/-- blocks that hold just these data, and stay as they are while the call runs -/
def Boxes (St : Stab) (w : World) (bl : List Nat) (bs : List (List D)) : Prop :=
  bl.length = bs.length ∧ bl.Nodup ∧ ∀ (j b : Nat) (cs : List D), bl[j]? = some b → bs[j]? = some cs → ∃ e us, w.heap[b]? = some (.cells us e (0, 0)) ∧ us.size = cs.length ∧ (∀ u ∈ us, u.oneCell' = true) ∧
    (∀ (j : Nat) (u : Value) (d : D), us[j]? = some u → cs[j]? = some d → RepD St w u d) ∧ ∀ o, ¬ St b o

/-- What a call of a closure comes to, that reads variables (which hold bs) and changes nothing. -/
def RCall (P : Program) (f : FuncId) (ds : List D) (bs : List (List D)) (res : D) : Prop :=
  ∀ (St : Stab) (w : World) (vs : List Value) (bl : List Nat), (∀ b o, St b o → b < w.heap.size) → Glob St w → RepDs St w vs ds → Boxes St w bl bs →
    Calls P f (vs ++ bl.map fun b => Value.pointer (some ⟨b, 0, none⟩)).toArray w (fun e w' => ∃ v St', e = .returned v ∧ RepD St' w' v res ∧ Below w.heap.size w w' ∧ Keep St w St' w' ∧
      (∀ b o, St' b o → St b o ∨ w.heap.size ≤ b) ∧ (∀ b o, St' b o → b < w'.heap.size))

/-- the objects hold these data -/
def BoxesAt (η : List Ob) : List Nat → List (List D) → Prop
  | [], [] => True
  | i :: ids, cs :: bs => η[i]? = some (.box (cs.map .d)) ∧ BoxesAt η ids bs
  | _, _ => False

theorem BoxesAt_nil {η : List Ob} : BoxesAt η [] [] := trivial
theorem BoxesAt_cons {η : List Ob} {i : Nat} {ids : List Nat} {cs : List D} {bs : List (List D)} (h : η[i]? = some (.box (cs.map .d))) (r : BoxesAt η ids bs) : BoxesAt η (i :: ids) (cs :: bs) := ⟨h, r⟩

theorem BoxesAt.boxes {g : Gh} {w : World} (hi : Inv g w η) : ∀ {ids : List Nat} {bs : List (List D)}, BoxesAt η ids bs → ids.Nodup → ∃ bl : List Nat, Boxes g.St w bl bs ∧ bl.length = ids.length ∧ ∀ (j i b : Nat), ids[j]? = some i → bl[j]? = some b → g.blk i = some b
  | [], [], _, _ => ⟨[], ⟨rfl, List.nodup_nil, fun j b cs h => by simp at h⟩, rfl, fun j i b h => by simp at h⟩
  | i :: ids, cs :: bs, ⟨h1, h2⟩, hn => by
    obtain ⟨hni, hn'⟩ := List.nodup_cons.1 hn
    obtain ⟨bl, ⟨e1, e2, e3⟩, e4, e5⟩ := BoxesAt.boxes hi h2 hn'
    obtain ⟨b, e, us, o1, o2, o3, o4, o5, o6⟩ := hi.ob i _ h1
    refine ⟨b :: bl, ⟨by simp [e1], List.nodup_cons.2 ⟨fun hm => ?_, e2⟩, fun j b' cs' hj hc => ?_⟩, by simp [e4], fun j i' b' hj hb => ?_⟩
    · obtain ⟨j, hj⟩ := List.mem_iff_getElem?.1 hm
      have hjl : j < ids.length := by rw [← e4]; exact (List.getElem?_eq_some_iff.1 hj).1
      have := e5 j ids[j] b (List.getElem?_eq_getElem hjl) hj
      have hii := hi.inj i ids[j] b o1 this
      exact hni (hii ▸ List.getElem_mem hjl)
    · match j with
      | 0 =>
        simp at hj hc; subst hj; subst hc
        exact ⟨e, us, o2, by simpa using o3, o4, fun j u d hu hd => o5 j u (.d d) hu (by rw [List.getElem?_map, hd]; rfl), o6⟩
      | j + 1 => exact e3 j b' cs' (by simpa using hj) (by simpa using hc)
    · match j with
      | 0 => simp at hj hb; subst hj; subst hb; exact o1
      | j + 1 => exact e5 j i' b' (by simpa using hj) (by simpa using hb)
  | [], _ :: _, h, _ => h.elim
  | _ :: _, [], h, _ => h.elim

theorem Y_rcall {f : FuncId} {args : List Operand} {ids : List Nat} {ts : Array TypeId} {ds : List D} {bs : List (List D)} {res : D} (hx : oval σ x = .clo f ids) (hb : hasBody P f = true) (hc : RCall P f ds bs res) (ha : CoL η σ args ds) (hbs : BoxesAt η ids bs) (hnd : ids.Nodup) :
    Ylds P η σ ⟨dst, .call ⟨.value x, args.toArray, ts⟩, ty, pos, after, gd⟩ (.d res) := by
  intro g w a hi hop
  have hr := CoL.rep (a := a) hi args ds (fun y hm => hop y (by simp [Op.operands, Call.operands, hm])) ha
  have hxr := hop x (by simp [Op.operands, Call.operands]); rw [hx] at hxr
  obtain ⟨cv, hv, hl, hcv⟩ := hxr
  obtain ⟨bl, hbx, hbl, hbi⟩ := BoxesAt.boxes hi hbs hnd
  have ecv : cv = bl.map fun b => Value.pointer (some ⟨b, 0, none⟩) := by
    refine List.ext_getElem? fun j => ?_
    rcases Nat.lt_or_ge j ids.length with hj | hj
    · have h1 : cv[j]? = some (cv[j]'(by omega)) := List.getElem?_eq_getElem (by omega)
      have h2 : bl[j]? = some (bl[j]'(by omega)) := List.getElem?_eq_getElem (by omega)
      obtain ⟨_, b, hb1, hb2⟩ := hcv j ids[j] _ (List.getElem?_eq_getElem hj) h1
      have := hbi j ids[j] _ (List.getElem?_eq_getElem hj) h2
      rw [this] at hb1; injection hb1 with hb1
      rw [h1, List.getElem?_map, h2, hb2, hb1]; rfl
    · rw [List.getElem?_eq_none (by omega), List.getElem?_eq_none (by simp; omega)]
  refine .inr ⟨f, ((args.map a.eval) ++ bl.map fun b => Value.pointer (some ⟨b, 0, none⟩)).toArray, ?_, ?_⟩
  · simp only [execOp, resolve, hv, Deferred.ofValue, invoke, Sem.run_bind, Sem.run_pure, Result.andThen_ok, List.map_toArray, Array.empty_append]
    rw [ecv, List.append_toArray]
    exact hasBody_run hb
  · refine (hc g.St w _ bl hi.st hi.gl hr hbx).mono fun e w' ⟨v, St', he, hrep, hbel, hkeep, hnew, hlt⟩ => ?_
    exact ⟨v, { g with St := St' }, he, ⟨rfl, rfl, rfl, rfl, hbel.os, hbel.tape, hbel.output, hbel.size, hbel.block, hkeep.sub, hnew, hlt⟩, hrep⟩

def ptrs0 : Nat → Nat → Nat → Sl
  | 0, _, _ => []
  | n + 1, k, i => (k, .ptr i 0) :: ptrs0 n (k + 1) (i + 1)

theorem ptrs0_rep {g : Gh} {w : World} : ∀ (n k i : Nat) (f : Nat → Value), (∀ j, j < n → i + j < g.n ∧ ∃ b, g.blk (i + j) = some b ∧ f (k + j) = .pointer (some ⟨b, 0, none⟩)) → ∀ t, RepS g w (f t) (get (ptrs0 n k i) t)
  | 0, _, _, _, _, _ => trivial
  | n + 1, k, i, f, h, t => by
    unfold ptrs0
    rw [get_cons]
    split
    · rename_i e; subst e; exact h 0 (by omega)
    · exact ptrs0_rep n (k + 1) (i + 1) f (fun j hj => by have := h (j + 1) (by omega); rw [show i + 1 + j = i + (j + 1) by omega, show k + 1 + j = k + (j + 1) by omega]; exact this) t

theorem get_append (σ τ : Sl) (t : Nat) : get (σ ++ τ) t = (match get σ t with | .top => get τ t | s => s) ∨ get (σ ++ τ) t = .top := by
  induction σ with
  | nil => exact .inl rfl
  | cons p r ih =>
    obtain ⟨k, s⟩ := p
    rw [List.cons_append, get_cons, get_cons]
    split
    · cases s <;> first | exact .inl rfl | exact .inr rfl
    · exact ih

/-- A CLOSURE IS ENTERED. -/
theorem rcall_of {f : FuncId} {fn : Func} {c : Code} {ds : List D} {bs : List (List D)} {res : D} {N : Nat} {rs : Array ResultVar} (hf : P.funcs[f]? = some fn) (hb : fn.body = some c) (hN : fn.ntmps = N) (hrs : fn.results = rs) (hl : Nat.ble (ds.length + bs.length) N = true)
    (h : ∀ (w0 : World) (St0 : Stab), awp ⟨P, N, w0, St0, fun _ => False, bs.length⟩ c (rpost rs res) (args0 ds 0 ++ ptrs0 bs.length ds.length 0) (bs.map fun cs => .box (cs.map .d))) : RCall P f ds bs res := by
  intro St w vs bl hst hgl hrep ⟨b1, b2, b3⟩
  subst hN
  have hl := Nat.le_of_ble_eq_true hl
  have hlen := hrep.len
  refine calls_of_wp hf hb (h w St _ ?_ _ _ ?_)
  · intro e σ' η' a' w' hq ⟨g, ha⟩
    have fin : ResOk rs σ' η' res → a'.defers = [] ∧ ∃ v, (results fn a'.tmps).run P w' = .ok v w' ∧ ∃ v_1 St', Ending.returned v = .returned v_1 ∧ RepD St' w' v_1 res ∧ Below w.heap.size w w' ∧ Keep St w St' w' ∧
      (∀ b o, St' b o → St b o ∨ w.heap.size ≤ b) ∧ (∀ b o, St' b o → b < w'.heap.size) := by
      intro hq
      obtain ⟨v, hr, hd⟩ := hq.run (P := P) hrs ha
      refine ⟨ha.defers, v, hr, v, g.St, rfl, hd, ⟨ha.os, ha.tape, ha.output, ha.wsize, fun k hk => ha.heap k hk (fun h => h)⟩, ha.keep, fun b o hb => ?_, ha.inv.st⟩
      rcases ha.new b o hb with h1 | h1 | h1
      · exact .inl h1
      · exact .inr h1
      · exact h1.elim
    cases e <;> first | exact fin hq | exact hq.elim
  · have hblt : ∀ i b, bl[i]? = some b → b < w.heap.size := fun i b hb => by
      have hil : i < bs.length := by rw [← b1]; exact (List.getElem?_eq_some_iff.1 hb).1
      obtain ⟨e, us, h1, _⟩ := b3 i b bs[i] hb (List.getElem?_eq_getElem hil)
      exact (Array.getElem?_eq_some_iff.1 h1).1
    let g : Gh := ⟨St, fun i => bl[i]?, fun _ => 0, fun _ => 0, bs.length⟩
    have hgt : ∀ j v, (vs ++ bl.map fun b => Value.pointer (some ⟨b, 0, none⟩))[j]? = some v → ((vs ++ bl.map fun b => Value.pointer (some ⟨b, 0, none⟩)).toArray ++ Array.replicate (fn.ntmps - (vs ++ bl.map fun b => Value.pointer (some ⟨b, 0, none⟩)).toArray.size) undef).getD j undef = v := by
      intro j v hj
      rw [Array.getD_eq_getD_getElem?, Array.getElem?_append_left (by simpa using (List.getElem?_eq_some_iff.1 hj).1), List.getElem?_toArray, hj]
      rfl
    refine ⟨g, rfl, ?_, ⟨by simp [g], fun i b hb => hblt i b hb, fun i hi => ?_, fun i j b hi hj => ?_, fun i o ho => ?_, hst, hgl⟩, rfl, rfl, rfl, Nat.le_refl _, fun _ _ _ => rfl, Keep.refl St w, fun _ _ h => .inl h, fun i b hb hr => ?_, fun t => ?_⟩
    · simp [hlen]; omega
    · exact List.getElem?_eq_none (by rw [b1]; exact hi)
    · have h1 := (List.getElem?_eq_some_iff.1 hi); have h2 := (List.getElem?_eq_some_iff.1 hj)
      obtain ⟨q1, e1⟩ := h1; obtain ⟨q2, e2⟩ := h2
      have hp := List.pairwise_iff_getElem.1 b2
      rcases Nat.lt_trichotomy i j with hlt | hlt | hlt
      · exact absurd (e1.trans e2.symm) (hp i j q1 q2 hlt)
      · exact hlt
      · exact absurd (e2.trans e1.symm) (hp j i q2 q1 hlt)
    · rw [List.getElem?_map] at ho
      cases hc : bs[i]? with
      | none => simp [hc] at ho
      | some cs =>
        simp [hc] at ho; subst ho
        have hil : i < bl.length := by rw [b1]; exact (List.getElem?_eq_some_iff.1 hc).1
        obtain ⟨e, us, h1, h2, h3, h4, h5⟩ := b3 i bl[i] cs (List.getElem?_eq_getElem hil) hc
        refine ⟨bl[i], e, us, List.getElem?_eq_getElem hil, h1, by simpa using h2, h3, fun j u s hu hs => ?_, h5⟩
        rw [List.getElem?_map] at hs
        cases hd : cs[j]? with
        | none => simp [hd] at hs
        | some d => simp [hd] at hs; subst hs; exact h4 j u d hu hd
    · exfalso
      have h1 : i < bl.length := (List.getElem?_eq_some_iff.1 hb).1
      have h2 : bs.length ≤ i := hr
      omega
    · have hd := args0_rep (g := g) (w := w) vs ds 0 (fun j => ((vs ++ bl.map fun b => Value.pointer (some ⟨b, 0, none⟩)).toArray ++ Array.replicate (fn.ntmps - (vs ++ bl.map fun b => Value.pointer (some ⟨b, 0, none⟩)).toArray.size) undef).getD j undef) hrep (fun j v hj => by
        rw [Nat.zero_add]
        exact hgt j v (by rw [List.getElem?_append_left (List.getElem?_eq_some_iff.1 hj).1]; exact hj)) t
      have hp := ptrs0_rep (g := g) (w := w) bs.length ds.length 0 (fun j => ((vs ++ bl.map fun b => Value.pointer (some ⟨b, 0, none⟩)).toArray ++ Array.replicate (fn.ntmps - (vs ++ bl.map fun b => Value.pointer (some ⟨b, 0, none⟩)).toArray.size) undef).getD j undef) (fun j hj => by
        have hjl : j < bl.length := by omega
        refine ⟨by simpa [g] using hj, bl[j], by simp [g, hjl], hgt _ _ ?_⟩
        rw [List.getElem?_append_right (by omega), show ds.length + j - vs.length = j by omega, List.getElem?_map, List.getElem?_eq_getElem hjl]; rfl) t
      rcases get_append (args0 ds 0) (ptrs0 bs.length ds.length 0) t with h1 | h1
      · rw [h1]
        split
        · exact hp
        · exact hd
      · rw [h1]; trivial
end

end Go.Sx
