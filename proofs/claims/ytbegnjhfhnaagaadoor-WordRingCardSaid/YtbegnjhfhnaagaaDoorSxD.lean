/- The engine: contracts of functions that change nothing that was there; calls; how a function is entered. -/
import Derived.Test.YtbegnjhfhnaagaaDoorSxC
namespace Go.Sx
open Go.RowKit

def RepDs (St : Stab) (w : World) : List Value → List D → Prop
  | [], [] => True
  | v :: vs, d :: ds => RepD St w v d ∧ RepDs St w vs ds
  | _, _ => False

/-- What a call of f comes to: res, of data ds; nothing that was there has changed. -/
def PCall (P : Program) (f : FuncId) (ds : List D) (res : D) : Prop :=
  ∀ (St : Stab) (w : World) (vs : List Value), (∀ b o, St b o → b < w.heap.size) → Glob St w → RepDs St w vs ds →
    Calls P f vs.toArray w (fun e w' => ∃ v St', e = .returned v ∧ RepD St' w' v res ∧ Below w.heap.size w w' ∧ Keep St w St' w' ∧
      (∀ b o, St' b o → St b o ∨ w.heap.size ≤ b) ∧ (∀ b o, St' b o → b < w'.heap.size))

/-- what a slot holds, read as a datum -/
def Co (η : List Ob) (s : SV) (d : D) : Prop :=
  match s with
  | .d d' => d' = d
  | .nil => d = .slice [] ∨ d = .val (.slice none 0 0)
  | .buf id n => ∃ e sz xs, η[id]? = some (.buf false e sz xs) ∧ n ≤ xs.length ∧ d = .slice (xs.take n)
  | _ => False

theorem Co_d {η : List Ob} (d : D) : Co η (.d d) d := rfl
theorem Co_nil {η : List Ob} : Co η .nil (.slice []) := .inl rfl
theorem Co_buf {η : List Ob} {id n : Nat} {e sz : Nat} {xs : List D} (h : η[id]? = some (.buf false e sz xs)) (hn : n = xs.length) : Co η (.buf id n) (.slice xs) := ⟨e, sz, xs, h, by omega, by rw [hn, List.take_length]⟩

theorem flats_take {sz : Nat} : ∀ {xs : List D} (_ : ∀ x ∈ xs, x.flat.length = sz) (n : Nat), flats (xs.take n) = (flats xs).take (n * sz)
  | [], _, n => by simp [flats]
  | x :: r, h, 0 => by simp [flats]
  | x :: r, h, n + 1 => by
    have h1 := h x (by simp)
    have ih := flats_take (sz := sz) (xs := r) (fun y hy => h y (by simp [hy])) n
    simp only [flats, List.take_succ_cons, List.flatMap_cons] at ih ⊢
    have e1 : x.flat.take ((n + 1) * sz) = x.flat := List.take_of_length_le (by rw [h1, Nat.add_mul]; omega)
    have e2 : (n + 1) * sz - x.flat.length = n * sz := by rw [h1, Nat.add_mul]; omega
    rw [ih, List.take_append, e1, e2]

theorem Co.rep {η : List Ob} {g : Gh} {w : World} {v : Value} {s : SV} {d : D} (hi : Inv g w η) (h : RepS g w v s) (hc : Co η s d) : RepD g.St w v d := by
  unfold Co at hc
  split at hc
  · subst hc; exact h
  · change v = _ at h
    subst h
    rcases hc with rfl | rfl
    · exact .slice none 0 0 0 [] [] rfl (Nat.le_refl _) (Nat.zero_le _) (by simp) rfl (by simp) (by simp) (by simp)
    · exact .val _
  · rename_i id n
    obtain ⟨e, sz, xs, ho, hn, rfl⟩ := hc
    obtain ⟨hs, hf, hm, hl, hb⟩ := hi.ob id _ ho
    obtain ⟨_, rfl⟩ := h
    have hlen : (xs.take n).length = n := by rw [List.length_take]; omega
    rcases hb with ⟨hb, hc0⟩ | ⟨b, us, hb, hh, hsz, h1, hr, hst⟩
    · have hx : xs = [] := List.eq_nil_of_length_eq_zero (by omega)
      subst hx
      have hn0 : n = 0 := by simpa using hn
      subst hn0
      refine .slice _ 0 _ 0 _ [] (by simp) (Nat.zero_le _) hm (by simp) (by simp [flats]) (by simp) (by simp) (by simp)
    · have hul : xs.length * sz ≤ us.size := by rw [hsz]; exact Nat.mul_le_mul_right _ hl
      have hnl : n * sz ≤ xs.length * sz := Nat.mul_le_mul_right _ hn
      have hft := flats_take hf n
      refine .slice _ n _ sz _ (us.toList.take (n * sz)) hlen.symm (by omega) hm (fun x hx => hf x (List.mem_of_mem_take hx)) ?_ ?_ ?_ ?_
      · rw [hft, List.length_take, List.length_take, flats_len hf, Array.length_toList]; omega
      · intro u hu
        obtain ⟨j, hj, rfl⟩ := List.mem_iff_getElem.1 hu
        rw [List.getElem_take]
        rw [List.length_take, Array.length_toList] at hj
        exact h1 j _ (by omega) (by rw [Array.getElem_toList]; exact Array.getElem?_eq_getElem (by omega))
      · intro _
        refine ⟨⟨b, 0, none⟩, by rw [hb]; rfl, fun j u hj => ?_⟩
        rw [List.getElem?_take] at hj
        split at hj
        · rename_i hlt
          refine ⟨(hst _).2 ⟨rfl, by simp; omega⟩, ?_⟩
          rw [Addr.add_lit, Nat.zero_add, cell_of_row w b j us e (0, 0) hh]
          simpa using hj
        · cases hj
      · intro j u d hj hd
        rw [hft] at hd
        rw [List.getElem?_take] at hj hd
        split at hj
        · rename_i hlt
          rw [if_pos hlt] at hd
          exact hr j u d (by simpa using hj) hd
        · cases hj
  · exact hc.elim

/-- the arguments of a call, read as data -/
def CoL (η : List Ob) (σ : Sl) : List Operand → List D → Prop
  | [], [] => True
  | x :: xs, d :: ds => Co η (oval σ x) d ∧ CoL η σ xs ds
  | _, _ => False

theorem CoL_nil {η : List Ob} {σ : Sl} : CoL η σ [] [] := trivial
theorem CoL_d {η : List Ob} {σ : Sl} {x : Operand} {xs : List Operand} {d : D} {ds : List D} (h : oval σ x = .d d) (r : CoL η σ xs ds) : CoL η σ (x :: xs) (d :: ds) := ⟨by rw [h]; rfl, r⟩
theorem CoL_n {η : List Ob} {σ : Sl} {x : Operand} {xs : List Operand} {ds : List D} (h : oval σ x = .nil) (r : CoL η σ xs ds) : CoL η σ (x :: xs) (.slice [] :: ds) := ⟨by rw [h]; exact .inl rfl, r⟩
theorem CoL_v {η : List Ob} {σ : Sl} {x : Operand} {xs : List Operand} {ds : List D} (h : oval σ x = .nil) (r : CoL η σ xs ds) : CoL η σ (x :: xs) (.val (.slice none 0 0) :: ds) := ⟨by rw [h]; exact .inr rfl, r⟩
theorem CoL_b {η : List Ob} {σ : Sl} {x : Operand} {xs : List Operand} {ys : List D} {ds : List D} {id n : Nat} {e sz : Nat} (h : oval σ x = .buf id n) (ho : η[id]? = some (.buf false e sz ys)) (hn : n = ys.length) (r : CoL η σ xs ds) : CoL η σ (x :: xs) (.slice ys :: ds) :=
  ⟨by rw [h]; exact Co_buf ho hn, r⟩

theorem CoL.rep {η : List Ob} {σ : Sl} {g : Gh} {w : World} {a : Act} (hi : Inv g w η) : ∀ (xs : List Operand) (ds : List D), (∀ x ∈ xs, RepS g w (a.eval x) (oval σ x)) → CoL η σ xs ds → RepDs g.St w (xs.map a.eval) ds
  | [], [], _, _ => trivial
  | x :: xs, d :: ds, h, hc => ⟨hc.1.rep hi (h x (by simp)), CoL.rep hi xs ds (fun y hy => h y (by simp [hy])) hc.2⟩
  | [], _ :: _, _, hc => hc.elim
  | _ :: _, [], _, hc => hc.elim

theorem callFunc_run {P : Program} {f : FuncId} {fn : Func} {args : Array Value} {w : World} (hf : P.funcs[f]? = some fn) (hb : fn.body.isNone = false) (hn : (fn.name == "runtime.NumGoroutine") = false) : (callFunc f args).run P w = .ok (.enter f args) w := by
  unfold callFunc
  simp only [Sem.run_bind, run_program, Result.andThen_ok, hf, hn, hb, Bool.false_eq_true, if_false]
  rfl

/-- is f a function with a body (and not the one that the model does itself)? -/
def hasBody (P : Program) (f : FuncId) : Bool :=
  match P.funcs[f]? with
  | some fn => !fn.body.isNone && !(fn.name == "runtime.NumGoroutine")
  | none => false

theorem hasBody_run {P : Program} {f : FuncId} {args : Array Value} {w : World} (h : hasBody P f = true) : (callFunc f args).run P w = .ok (.enter f args) w := by
  unfold hasBody at h
  split at h
  · rename_i fn hf
    simp only [Bool.and_eq_true, Bool.not_eq_true'] at h
    exact callFunc_run hf h.1 h.2
  · cases h

section
variable {P : Program} {η : List Ob} {σ : Sl} {dst : Option Nat} {ty : TypeId} {pos : String} {after : Array Edge} {gd : Option (Nat × Bool)}

theorem Y_call {f : FuncId} {args : List Operand} {ts : Array TypeId} {ds : List D} {res : D} (hb : hasBody P f = true) (hc : PCall P f ds res) (ha : CoL η σ args ds) :
    Ylds P η σ ⟨dst, .call ⟨.value (.func f), args.toArray, ts⟩, ty, pos, after, gd⟩ (.d res) := by
  intro g w a hi hx
  have hr := CoL.rep (a := a) hi args ds (fun x hm => hx x (by simp [Op.operands, Call.operands, hm])) ha
  refine .inr ⟨f, (args.map a.eval).toArray, ?_, ?_⟩
  · simp only [execOp, resolve, Act.eval, Deferred.ofValue, invoke, Sem.run_bind, Sem.run_pure, Result.andThen_ok, List.map_toArray, Array.empty_append, Array.append_empty]
    exact hasBody_run hb
  · refine (hc g.St w _ hi.st hi.gl hr).mono fun e w' ⟨v, St', he, hrep, hbel, hkeep, hnew, hlt⟩ => ?_
    exact ⟨v, { g with St := St' }, he, ⟨rfl, rfl, rfl, rfl, hbel.os, hbel.tape, hbel.output, hbel.size, hbel.block, hkeep.sub, hnew, hlt⟩, hrep⟩
end

/-- the slots at the beginning -/
def args0 : List D → Nat → Sl
  | [], _ => []
  | d :: ds, k => (k, .d d) :: args0 ds (k + 1)

def ResOk (rs : Array ResultVar) (σ : Sl) (η : List Ob) (res : D) : Prop :=
  match rs.toList, res with
  | [.tmp r], d => Co η (get σ r) d
  | [.tmp r, .tmp s], .tup [d1, d2] => Co η (get σ r) d1 ∧ Co η (get σ s) d2
  | [.tmp r, .tmp s, .tmp t], .tup [d1, d2, d3] => Co η (get σ r) d1 ∧ Co η (get σ s) d2 ∧ Co η (get σ t) d3
  | _, _ => False

def rpost (rs : Array ResultVar) (res : D) : Exit → Sl → List Ob → Prop
  | .ret, σ, η => ResOk rs σ η res
  | .normal, σ, η => ResOk rs σ η res
  | _, _, _ => False

theorem rpost_ret {rs : Array ResultVar} {res : D} {σ : Sl} {η : List Ob} (h : ResOk rs σ η res) : rpost rs res .ret σ η := h

theorem ResOk.run {rs : Array ResultVar} {σ : Sl} {η : List Ob} {res : D} {P : Program} {fn : Func} {g : Gh} {w : World} {a : Act} {C : Ctx} (hrs : fn.results = rs) (h : ResOk rs σ η res) (ha : AbsG C g σ η a w) : ∃ v, (results fn a.tmps).run P w = .ok v w ∧ RepD g.St w v res := by
  obtain ⟨rl⟩ := rs
  unfold ResOk at h
  split at h
  · rename_i r hr
    simp at hr; subst hr
    exact ⟨_, results_tmp hrs _ _ _, h.rep ha.inv (ha.rep _)⟩
  · rename_i r s d1 d2 hr
    simp at hr; subst hr
    refine ⟨_, results_tmp2 hrs _ _ _, ?_⟩
    refine .tup [_, _] _ rfl fun j u d hu hd => ?_
    match j with
    | 0 => simp at hu hd; subst hu; subst hd; exact h.1.rep ha.inv (by simpa using ha.rep r)
    | 1 => simp at hu hd; subst hu; subst hd; exact h.2.rep ha.inv (by simpa using ha.rep s)
    | j + 2 => simp at hu
  · rename_i r s t d1 d2 d3 hr
    simp at hr; subst hr
    refine ⟨_, results_tmp3 hrs _ _ _, ?_⟩
    refine .tup [_, _, _] _ rfl fun j u d hu hd => ?_
    match j with
    | 0 => simp at hu hd; subst hu; subst hd; exact h.1.rep ha.inv (by simpa using ha.rep r)
    | 1 => simp at hu hd; subst hu; subst hd; exact h.2.1.rep ha.inv (by simpa using ha.rep s)
    | 2 => simp at hu hd; subst hu; subst hd; exact h.2.2.rep ha.inv (by simpa using ha.rep t)
    | j + 3 => simp at hu
  · exact h.elim

theorem RepDs.len {St : Stab} {w : World} : ∀ {vs : List Value} {ds : List D}, RepDs St w vs ds → vs.length = ds.length
  | [], [], _ => rfl
  | _ :: _, _ :: _, h => by simp [RepDs.len h.2]
  | [], _ :: _, h => h.elim
  | _ :: _, [], h => h.elim

theorem args0_rep {g : Gh} {w : World} : ∀ (vs : List Value) (ds : List D) (k : Nat) (f : Nat → Value), RepDs g.St w vs ds → (∀ j v, vs[j]? = some v → f (k + j) = v) → ∀ t, RepS g w (f t) (get (args0 ds k) t)
  | [], [], _, _, _, _, _ => trivial
  | v :: vs, d :: ds, k, f, h, hf, t => by
    unfold args0
    rw [get_cons]
    split
    · rename_i e; subst e
      have := hf 0 v rfl
      rw [Nat.add_zero] at this
      rw [this]; exact h.1
    · exact args0_rep vs ds (k + 1) f h.2 (fun j v' hj => by rw [← hf (j + 1) v' hj]; congr 1; omega) t
  | [], _ :: _, _, _, h, _, _ => h.elim
  | _ :: _, [], _, _, h, _, _ => h.elim

/-- A FUNCTION IS ENTERED. -/
theorem pcall_of {P : Program} {f : FuncId} {fn : Func} {c : Code} {ds : List D} {res : D} {N : Nat} {rs : Array ResultVar} (hf : P.funcs[f]? = some fn) (hb : fn.body = some c) (hN : fn.ntmps = N) (hrs : fn.results = rs) (hl : Nat.ble ds.length N = true)
    (h : ∀ (w0 : World) (St0 : Stab), awp ⟨P, N, w0, St0, fun _ => False, 0⟩ c (rpost rs res) (args0 ds 0) []) : PCall P f ds res := by
  intro St w vs hst hgl hrep
  subst hN
  have hl := Nat.le_of_ble_eq_true hl
  have hlen := hrep.len
  refine calls_of_wp hf hb (h w St _ ?_ _ _ ?_)
  · intro e σ' η' a' w' hq ⟨g, ha⟩
    have fin : ResOk rs σ' η' res → a'.defers = [] ∧ ∃ v, (results fn a'.tmps).run P w' = .ok v w' ∧ ∃ v_1 St', Ending.returned v = .returned v_1 ∧ RepD St' w' v_1 res ∧ Below w.heap.size w w' ∧ Keep St w St' w' ∧
      (∀ b o, St' b o → St b o ∨ w.heap.size ≤ b) ∧ (∀ b o, St' b o → b < w'.heap.size) := by
      intro hq
      obtain ⟨v, hr, hd⟩ := hq.run (P := P) hrs ha
      refine ⟨ha.defers, v, hr, v, g.St, rfl, hd, ⟨ha.os, ha.tape, ha.output, ha.wsize, fun k hk => ha.heap k hk (fun h => h)⟩, ha.keep, fun b o hb => ?_, ha.inv.st⟩
      rcases ha.new b o hb with h1 | h1 | h1
      · exact .inl h1
      · exact .inr h1
      · exact h1.elim
    cases e <;> first | exact fin hq | exact hq.elim
  · refine ⟨⟨St, fun _ => none, fun _ => 0, fun _ => 0, 0⟩, rfl, ?_, ⟨rfl, fun _ _ h => by simp at h, fun _ _ => rfl, fun _ _ _ h => by simp at h, fun _ _ h => by simp at h, hst, hgl⟩, rfl, rfl, rfl, Nat.le_refl _, fun _ _ _ => rfl, Keep.refl St w, fun _ _ h => .inl h, fun _ _ h => by simp at h, ?_⟩
    · simp [hlen]; omega
    · refine args0_rep vs ds 0 _ hrep fun j v hj => ?_
      have hjl : j < vs.length := (List.getElem?_eq_some_iff.1 hj).1
      simp only [Nat.zero_add, Array.getD_eq_getD_getElem?]
      rw [Array.getElem?_append_left (by simpa using hjl)]
      simp [hj]

end Go.Sx
