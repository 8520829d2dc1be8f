/- Texts of this claim, merged: InfE, InfH. -/
import Derived.Lib.SliceRun
import Derived.Test.YtblomnkamngnbaaGreatDoorMAQ
import Derived.Test.YtblomnkamngnbaaGreatDoorMAZ
namespace Go.Proofs.YtblomnkamngnbaaGreatDoor
open Go.Sx
theorem zJw (S : TS) : (zCq S).nx = S.nx + 1:=by unfold zCq zHZ;split <;> (try split) <;> rfl
theorem zM9 (S : TS) : (zCq S).st = S.st:=by unfold zCq zHZ;split <;> (try split) <;> rfl
def nxI : Nat → TS → TS
  | 0,S=>S
  | k + 1,S=>nxI k (zCq S)
theorem zM6 : ∀ (k : Nat) (S : TS),nxI (k + 1) S = zCq (nxI k S)
  | 0,S=>rfl
  | k + 1,S=>by rw [nxI,zM6 k, ← nxI]
theorem zM7 : ∀ (k : Nat) (S : TS),(nxI k S).nx = S.nx + k
  | 0,S=>by simp [nxI]
  | k + 1,S=>by rw [nxI,zM7 k,zJw];omega
theorem zSW : ∀ (k : Nat) (S : TS),(nxI k S).st = S.st
  | 0,S=>rfl
  | k + 1,S=>by rw [nxI,zSW k,zM9]
theorem zHm : ∀ (l : List Int) (S : TS),(zCk l S).2 = nxI l.length S
  | [],S=>rfl
  | v :: r,S=>by rw [zCk,zHm r];rfl
theorem zG9 : ∀ (l : List Int) (S : TS),(zCk l S).1.length = l.length
  | [],S=>rfl
  | v :: r,S=>by rw [zCk];simp [zG9 r]
theorem zJM : ∀ (l m : List Int) (S : TS),zCk (l ++ m) S = ((zCk l S).1 ++ (zCk m (zCk l S).2).1,(zCk m (zCk l S).2).2)
  | [],m,S=>rfl
  | v :: r,m,S=>by rw [List.cons_append,zCk,zJM r m];rfl
theorem zMJ {l : List Int} {i : Nat} {v : Int} (h : l[i]? = some v) (S : TS) : (zCk (l.take (i + 1)) S).1 = (zCk (l.take i) S).1 ++ [⟨v,varN (nxI i S).nx⟩]:=by
  have hi:=(List.getElem?_eq_some_iff.1 h).1
  rw [List.take_add_one,h,Option.toList_some,zJM,zHm,List.length_take,Nat.min_eq_left (by omega)];rfl
theorem zLN {l : List Int} {S : TS} {b : Bd} (h : b ∈ (zCk l S).1) : b.ty.length = 1:=by
  induction l generalizing S with
  | nil=>cases h
  | cons v r ih =>
    rw [zCk] at h
    rcases List.mem_cons.1 h with e | e
    · subst e;rfl
    · exact ih e
attribute [local irreducible] zAT Program.underlying Ylds zBA alex zBe zBP awp zAj zBZ zBk zA2 zBH zBR zA8 zBV zBb zBf zBu zBO VCall
set_option maxHeartbeats 2000000 in
theorem zKV (L : List Nd) (E : List Sg) (S : TS) (t : List Nd) (vs : List Int) (ht : t.length ≤ 10000) (hv : vs.length ≤ 1000000) (h0 : 0 ≤ S.nx ∧ S.nx ≤ 3000000000000) :
    zA2 Tryz.prog 111 [.ptr 0 0,.d (zAc t),.d (zBm vs)] (tyO L E S) (.d (zAc (zGc S t vs).1)) (tyO L E (zGc S t vs).2):=by
  have hap:=zNp (zCk vs S).1 t (by rw [zG9];omega) ht (fun b hb=>by rw [zLN hb];omega)
  refine zA1 Tryz.func111 rfl Tryz.ntmps111 Tryz.results111 rfl rfl rfl ?_
  intro wb St0 X fx
  repeat' first | apply en_n|apply zAH|apply zAB|apply zAF|apply w0|apply ay (hd:=rfl)|exact zAE rfl|(apply zAl;exact rfl;(with_reducible exact zBw))|exact zAb rfl|apply zAI
  refine zCI 7 false 147 2 rfl rfl ?_
  refine zAr (α:=Nat) (fun i=>i ≤ vs.length) (fun i=>[(0,.ptr 0 0),(1,.d (zAc t)),(7,.buf 3 ((zCk (vs.take i) S).1.map Bd.av).length),(10,.d (zBm vs)),(11,.d (i64 (vs.length : Int))),(12,.d (i64 (i : Int)))]) (fun i=>anch fx 0 (tyO L E S) (tyO L E (nxI i S)) ++ [.buf false 147 2 ((zCk (vs.take i) S).1.map Bd.av)]) (fun i=>vs.length - i) 0 (Nat.zero_le _)
    (zAO (zAA rfl (zAA rfl (zBt rfl rfl (zAA rfl (Le_d rfl rfl (zAA rfl zAa)))))) (zAD rfl rfl (zAD rfl rfl (zAD rfl rfl (zAu rfl rfl rfl zAN)))) rfl rfl) ?_
  intro i hi
  rcases Nat.lt_or_ge i vs.length with hlt | hge
  · have hn:=zFG L E (nxI i S) (by rw [zM7];omega)
    rw [← zM6] at hn
    have hv' : vs[i]? = some vs[i]:=List.getElem?_eq_getElem hlt
    generalize vs[i] = v at hv'
    have e:=zMJ hv' S
    have hfl:=zG9 (vs.take i) S
    have htl : (vs.take i).length ≤ 1000000:=by rw [List.length_take];omega
    clear hap
    skip
    repeat' first | apply en_n|apply zAH|apply zAB|apply zAF|apply w0|(apply zA5;exact rfl;exact rfl;first|assumption|omega)|(apply aApp (id:=3) (hd:=rfl) (hro:=rfl);exact rfl;exact rfl;(first|exact zAk rfl|exact Co_bb rfl rfl rfl|exact Co_nn rfl);(first|exact rfl|exact (by simp));exact rfl;(with_reducible exact zGe);(with_reducible exact zFo);(with_reducible exact zOn);(with_reducible exact zNe);(first|exact zCF (fun _=>rfl)|exact zCE rfl))|(refine zA3 [0,1,2] zEA (hn) ?_ rfl rfl (by decide) rfl rfl rfl rfl rfl rfl ?_;(repeat (refine zAL rfl ?_));exact zAS)|(apply zBE (cs:=[ival v,zAc (varN (nxI i S).nx)]);exact zPO;exact zOm;exact PD_d rfl rfl (PD_d rfl rfl zB0);exact rfl)|(apply aJ (hd:=rfl);(first|exact zAk rfl|exact Co_bb rfl rfl rfl|exact Co_nn rfl);exact rfl;(with_reducible exact zA7);assumption;omega;exact fun _=>rfl)|apply ay (hd:=rfl)|exact zAE rfl|exact zAC rfl|(apply zAg;exact rfl;(with_reducible exact zAs))|(apply zBC;exact rfl;exact rfl)|exact zAw rfl|exact zAm rfl|exact zAZ rfl|(apply zCC;(with_reducible exact zGe);(with_reducible exact zFo);(with_reducible exact zOk);exact rfl;exact rfl;(first|exact zAX rfl zAG|exact zC4 rfl rfl rfl zAG|exact zDG rfl zAG);exact rfl)|(apply zAK;exact rfl)|apply zAI|apply zAP|apply eb_n
    all_goals first | omega | skip
    · simp only [List.length_map,List.length_cons,List.length_nil];omega
    · exact ⟨i + 1,by omega,by omega,zAO (zAA rfl (zAA rfl (zBt rfl (by rw [e];simp) (zAA rfl (zAA rfl (zAA rfl zAa)))))) (zAD rfl rfl (zAD rfl rfl (zAD rfl rfl (zAu rfl rfl (by rw [e,List.map_append];rfl) zAN)))) rfl rfl⟩
  · have hap2 : zAj Tryz.prog 114 [binds (zCk (vs.take i) S).1,zAc t] (zAc (zGc S t vs).1):=by
      rw [List.take_of_length_le hge];exact hap
    have he : (zGc S t vs).2 = nxI i S:=by rw [zGc,zHm,show vs.length = i by omega]
    rw [he]
    clear hap
    skip
    repeat' first | apply en_n|apply zAH|apply zAB|apply zAF|apply w0|(apply zBq;exact rfl;exact rfl;first|assumption|omega)|(refine zAV zNT hap2 (zC4 rfl rfl rfl (zAX rfl zAG)))|apply ay (hd:=rfl)|exact zAE rfl|exact zAC rfl|exact zAw rfl|(apply zAQ;exact rfl)|apply zAM|apply zAt|apply en_e|apply eb_e
    all_goals first | omega | skip
    exact zAq (zAO (zAA rfl zAa) (zAD rfl rfl (zAD rfl rfl (zAD rfl rfl zAN))) rfl rfl)
theorem zQ7 (x : List UInt8) (u : Sg) : zBH Tryz.prog 132 [.d u.av,.ptr 0 0] [.box [.d (str x)]] (bl (decide (u.name = x))):=by
  refine zBx Tryz.func132 rfl Tryz.ntmps132 Tryz.results132 rfl ?_
  intro wb St0
  repeat' first | apply en_n|apply zAH|apply zAB|apply zAF|apply w0|exact zGo rfl rfl|(apply aBox (hd:=rfl) (hro:=rfl);exact rfl;exact rfl)|apply ay (hd:=rfl)|exact zAC rfl|(apply zAR;exact rfl;(with_reducible exact fg_0))|(apply zAU;exact rfl;(with_reducible exact zAv);exact rfl;exact rfl)|apply zAM|apply zAJ|(apply res1;exact rfl)
  rfl
theorem zP8 {E : List Sg} {p : Sg → Bool} {s : Sg} (h : E.find? p = some s) : ∃ k : Nat,E[k]? = some s ∧ idxP p E = k:=by
  rcases zFP (p:=p) (l:=E) with ⟨h1,_⟩ | ⟨k,x,h1,h2,h3⟩
  · rw [h1] at h;cases h
  · rw [h3] at h;injection h with h;subst h;exact ⟨k,h1,h2⟩
set_option maxHeartbeats 2000000 in
theorem zJe (L : List Nd) (E : List Sg) (S S' : TS) (x : List UInt8) (r : List Nd) (hE : E.length ≤ 1000000) (hT : ∀ s ∈ E,s.ty.length ≤ 10000) (h0 : 0 ≤ S.nx ∧ S.nx ≤ 3000000000000) (h : zKZ E S x = some (r,S')) :
    zA2 Tryz.prog 112 [.ptr 0 0,.d (str x)] (tyO L E S) (.d (zAc r)) (tyO L E S'):=by
  unfold zKZ at h
  cases hf : E.find? (fun s=>decide (s.name = x)) with
  | none=>rw [hf] at h;cases h
  | some s =>
    rw [hf] at h
    dsimp only at h
    obtain ⟨k,hk,hi⟩:=zP8 hf
    have hm:=hT s (List.mem_of_getElem? hk)
    have hif:=zQw 132 (str x) (fun u=>decide (u.name = x)) zRh (zQ7 x) E (by omega)
    rw [hi] at hif
    have hvs:=zKT s.ty (by omega)
    have hvl : (zCh s.ty).length ≤ 1000000:=by
      unfold zCh;split
      · have:=zFB s.ty []
        unfold zB3;simp only [List.length_nil] at this;omega
      · simp
    have hfr:=zKV L E S s.ty (zCh s.ty) hm hvl h0
    injection h with h
    rw [h] at hfr
    dsimp only at hfr
    generalize zCh s.ty = vs at *
    clear hf hT hE hi
    refine zA1 Tryz.func112 rfl Tryz.ntmps112 Tryz.results112 rfl rfl rfl ?_
    intro wb St0 X fx
    repeat' first | apply en_n|apply zAH|apply zAB|apply zAF|apply w0|exact zAo rfl|(refine zBB [3] [] rfl rfl zPs (hif) rfl ?_ rfl (by decide) rfl rfl rfl rfl;(repeat (refine zAL rfl ?_));exact zAS)|(refine zAV zIX hvs (zAX rfl zAG))|(refine zDC (by kernel_rfl) ?_;refine zA3 [0,1,2] zLB (hfr) ?_ rfl rfl (by decide) rfl rfl rfl rfl rfl rfl ?_;(repeat (refine zAL rfl ?_));exact zAS)|(apply aJ (hd:=rfl);(first|exact zAk rfl|exact Co_bb rfl rfl rfl|exact Co_nn rfl);exact rfl;(with_reducible exact zCL);assumption;omega;exact fun _=>rfl)|(apply aBox (hd:=rfl) (hro:=rfl);exact rfl;exact rfl)|apply ay (hd:=rfl)|exact zAE rfl|exact zAC rfl|(apply zAy;exact rfl;(with_reducible exact fg_1))|(apply zAg;exact rfl;(with_reducible exact zAn))|exact zAb rfl|exact zAZ rfl|(apply zAR;exact rfl;(with_reducible exact fy_2))|(apply zAU;exact rfl;(with_reducible exact zH3);exact rfl;exact rfl)|exact zGA rfl|apply zAM|refine zA6 (by kernel_rfl) (by kernel_rfl) ?_
    exact zAq (zAO (zAA rfl zAa) (zAD rfl rfl (zAD rfl rfl (zAD rfl rfl zAN))) rfl rfl)
theorem zP9 {N : List Lc} {p : Lc → Bool} : ∀ (j : Nat) {l : Lc},N[j]? = some l → p l = true → (∀ (k : Nat) u,j < k → N[k]? = some u → p u = false) → N.reverse.find? p = some l:=by
  induction N with
  | nil=>intro j l h;simp at h
  | cons a N ih =>
    intro j l hl hp hn
    rw [List.reverse_cons,List.find?_append]
    cases j with
    | zero =>
      simp at hl;subst hl
      have : N.reverse.find? p = none:=List.find?_eq_none.2 fun u hu=>by
        obtain ⟨k,hk⟩:=List.mem_iff_getElem?.1 (List.mem_reverse.1 hu)
        rw [hn (k + 1) u (by omega) (by simpa using hk)];simp
      rw [this];simp [hp]
    | succ j =>
      rw [ih j (by simpa using hl) hp fun k u hk hu=>hn (k + 1) u (by omega) (by simpa using hu)];rfl
theorem zOT {N : List Lc} {p : Lc → Bool} (h : ∀ (k : Nat) u,N[k]? = some u → p u = false) : N.reverse.find? p = none:=List.find?_eq_none.2 fun u hu=>by
  obtain ⟨k,hk⟩:=List.mem_iff_getElem?.1 (List.mem_reverse.1 hu)
  rw [h k u hk];simp
set_option maxHeartbeats 2000000 in
theorem zRZ (L : List Nd) (E : List Sg) (S S' : TS) (N : List Lc) (x : List UInt8) (r : List Nd) (hE : E.length ≤ 1000000) (hT : ∀ s ∈ E,s.ty.length ≤ 10000) (hN : N.length ≤ 1000000) (hNt : ∀ l ∈ N,l.t.length ≤ 10000 ∧ l.any.length ≤ 1000000) (h0 : 0 ≤ S.nx ∧ S.nx ≤ 3000000000000) (h : zJD E N S x = some (r,S')) :
    zA2 Tryz.prog 67 [.ptr 0 0,.d (str x),.d (locs N)] (tyO L E S) (.d (zAc r)) (tyO L E S'):=by
  refine zA1 Tryz.func67 rfl Tryz.ntmps67 Tryz.results67 rfl rfl rfl ?_
  intro wb St0 X fx
  unfold zJD at h
  repeat' first | apply en_n|apply zAH|apply zAB|apply zAF|apply w0|apply ay (hd:=rfl)|exact zAE rfl|exact zAC rfl|(apply zAl;exact rfl;(with_reducible exact zDO))|(apply zIt;exact rfl;exact rfl)|exact zAb rfl|apply zAI
  · omega
  refine zAr (α:=Nat) (fun j=>j ≤ N.length ∧ ∀ (k : Nat) u,j ≤ k → N[k]? = some u → decide (u.name = x) = false) (fun j=>[(0,.ptr 0 0),(1,.d (str x)),(2,.d (locs N)),(7,.d (i64 ((j : Int) - 1)))]) (fun _=>anch fx 0 (tyO L E S) (tyO L E S)) (fun j=>j) N.length ⟨Nat.le_refl _,fun k u hk hu=>by have:=(List.getElem?_eq_some_iff.1 hu).1;omega⟩
    (zAO (zAA rfl (zAA rfl (zAA rfl (Le_d rfl rfl zAa)))) (zAD rfl rfl (zAD rfl rfl (zAD rfl rfl zAN))) rfl rfl) ?_
  rintro j ⟨hj,hn⟩
  rcases Nat.eq_zero_or_pos j with hz | hz
  · subst hz
    rw [zOT fun k u hu=>hn k u (Nat.zero_le _) hu] at h
    have htd:=zJe L E S S' x r hE hT h0 h
    have hge : ¬ ((0 : Nat) : Int) - 1 ≥ 0:=by omega
    skip
    repeat' first | apply en_n|apply zAH|apply zAB|apply zAF|apply w0|(apply zVB;exact rfl;exact rfl;first|assumption|omega)|(refine zA3 [0,1,2] zJ3 (htd) ?_ rfl rfl (by decide) rfl rfl rfl rfl rfl rfl ?_;(repeat (refine zAL rfl ?_));exact zAS)|apply ay (hd:=rfl)|exact zAE rfl|exact zAC rfl|exact zAZ rfl|(apply zAQ;exact rfl)|apply zAM|apply zAt|apply en_e|apply eb_e
    exact zAq (zAO (zAA rfl zAa) (zAD rfl rfl (zAD rfl rfl (zAD rfl rfl zAN))) rfl rfl)
  · obtain ⟨i,rfl⟩ : ∃ i,j = i + 1:=⟨j - 1,by omega⟩
    have hlt : i < N.length:=by omega
    have hl : N[i]? = some N[i]:=List.getElem?_eq_getElem hlt
    have hm:=hNt _ (List.getElem_mem hlt)
    generalize N[i] = l at *
    have e1 : ((i + 1 : Nat) : Int) - 1 = (i : Int):=by omega
    rw [e1]
    have hge : (i : Int) ≥ 0:=by omega
    by_cases hx : l.name = x
    · rw [zP9 i hl (decide_eq_true hx) fun k u hk hu=>hn k u (by omega) hu] at h
      have hfr:=zKV L E S l.t l.any hm.1 hm.2 h0
      injection h with h
      rw [h] at hfr
      dsimp only at hfr
      skip
      repeat' first | apply en_n|apply zAH|apply zAB|apply zAF|apply w0|(apply zSo;exact rfl;exact rfl;first|assumption|omega)|(apply Y_eqsT;exact rfl;exact rfl;assumption)|(refine zDC (by kernel_rfl) ?_;refine zA3 [0,1,2] zLB (hfr) ?_ rfl rfl (by decide) rfl rfl rfl rfl rfl rfl ?_;(repeat (refine zAL rfl ?_));exact zAS)|(apply aJ (hd:=rfl);(first|exact zAk rfl|exact Co_bb rfl rfl rfl|exact Co_nn rfl);exact rfl;(with_reducible exact zBz);assumption;omega;exact fun _=>rfl)|apply ay (hd:=rfl)|exact zAE rfl|exact zAC rfl|(apply zAy;exact rfl;(with_reducible first|exact fl_0|exact fl_1|exact fl_2))|(apply zAg;exact rfl;(with_reducible first|exact zAn|exact zJh|exact zAv))|exact zAZ rfl|(apply zAK;exact rfl)|apply zAI|apply zAP|apply zAM|refine zA6 (by kernel_rfl) (by kernel_rfl) ?_|apply en_r|apply eb_r
      exact zAq (zAO (zAA rfl zAa) (zAD rfl rfl (zAD rfl rfl (zAD rfl rfl zAN))) rfl rfl)
    · skip
      repeat' first | apply en_n|apply zAH|apply zAB|apply zAF|apply w0|(apply zSo;exact rfl;exact rfl;first|assumption|omega)|(apply Y_eqsF;exact rfl;exact rfl;assumption)|(apply aJ (hd:=rfl);(first|exact zAk rfl|exact Co_bb rfl rfl rfl|exact Co_nn rfl);exact rfl;(with_reducible exact zBz);assumption;omega;exact fun _=>rfl)|apply ay (hd:=rfl)|exact zAE rfl|exact zAC rfl|(apply zAy;exact rfl;(with_reducible exact fl_0))|(apply zAg;exact rfl;(with_reducible exact zAv))|(apply zIt;exact rfl;exact rfl)|(apply zAK;exact rfl)|(apply zAQ;exact rfl)|apply zAI|apply zAP|apply eb_n
      · omega
      · refine ⟨i,⟨by omega,fun k u hk hu=>?_⟩,by omega,zAO (zAA rfl (zAA rfl (zAA rfl (zAA rfl zAa)))) (zAD rfl rfl (zAD rfl rfl (zAD rfl rfl zAN))) rfl rfl⟩
        rcases Nat.lt_or_ge i k with h1 | h1
        · exact hn k u (by omega) hu
        · rw [show k = i by omega,hl] at hu;injection hu with hu;subst hu;exact decide_eq_false hx
end Go.Proofs.YtblomnkamngnbaaGreatDoor
namespace Go.Sx
open Go.RowKit
section
variable {C : Ctx} {ops : Array Oper} {rest : List Oper} {K : Sl → List Ob → Prop} {σ : Sl} {η : List Ob} {d : Nat} {ty ty2 : TypeId} {pos pos2 : String} {after after2 : Array Edge} {t : TypeId} {x y : Operand}
theorem zMX {id m k e : Nat} {z : Value} {xs : List D} (hx : oval σ x = .buf id m) (hy : oval σ y = .d (.val (.int .i64 (k : Int)))) (ho : η[id]? = some (.buf true e 1 xs)) (hm : m = xs.length) (hk : k < m) (hs : zBG C.P t = some 1) (he : zB6 C.P t = some e) (hz : zBo C.P e = some [z]) (hd : Nat.blt d C.N = true) (hro : Nat.ble C.ro id = true)
    (h : alex C false ops rest K ((d,.top) :: σ) (η.set id (.buf true e 1 (xs.take k ++ List.replicate (m - k) (.val z))))) :
    alex C false ops (⟨some d,.slice t x (some y) none none,ty,pos,after,none⟩ :: ⟨none,.call ⟨.builtin .clear, #[.tmp d], #[t]⟩,ty2,pos2,after2,none⟩ :: rest) K σ η:=by
  subst hm
  intro Q hQ a w hab
  refine wpList_step fun K' hK'=>?_
  obtain ⟨g,ha⟩:=hab
  rw [if_pos (by rfl)]
  obtain ⟨e',i,hu,hi',hsz⟩:=zBn hs
  have : e' = e:=by have:=zB9 he;rw [hu] at this;injection this with this;injection this
  subst this
  have hxr:=ha.eval x;rw [hx] at hxr
  obtain ⟨hid,hxv⟩:=hxr
  have hyr:=RepD.val_eq (show RepD g.St w _ _ from (hy ▸ ha.eval y))
  obtain ⟨o1,o2,o3,o4,o5⟩:=ha.inv.ob id _ ho
  obtain ⟨b,us,h1,h2,h3,h4,h5,h6⟩ : ∃ b us,g.blk id = some b ∧ w.heap[b]? = some (.cells us e' (0,0)) ∧ us.size = g.cap id * 1 ∧
        (∀ (j : Nat) (u : Value),j < xs.length * 1 → us[j]? = some u → u.oneCell' = true) ∧
        (∀ (j : Nat) (u : Value) (d : D),us[j]? = some u → (zB4 xs)[j]? = some d → RepD g.St w u d) ∧
        (∀ o,g.St b o ↔ (true = false ∧ o < xs.length * 1)):=by
    rcases o5 with ⟨q1,q2⟩ | h
    · omega
    · exact h
  rw [h1] at hxv
  simp only [Option.map_some] at hxv
  have hsl:=zF0 hu hi' (some (⟨b,0,none⟩ : Addr)) xs.length (g.cap id) k xs.length (some (.int .i64 (k : Int))) none (.inr ⟨.i64,rfl⟩) (.inl ⟨rfl,rfl⟩) (by omega) o4 w
  rw [if_neg (by omega),hsz,Nat.mul_one] at hsl
  have hrun1 : (execOp a.eval ⟨some d,.slice t x (some y) none none,ty,pos,after,none⟩).run C.P w = .ok (.value (.slice (some ⟨b,k,none⟩) (xs.length - k) (g.cap id - k))) w:=by
    simp only [execOp,hxv,hyr,Sem.run_bind,Sem.run_pure,Option.map_some,Option.map_none,hsl,Result.andThen_ok]
    simp [Addr.add_lit]
  unfold Oper.wp
  rw [hrun1]
  refine hK' _ _ ?_
  refine wpList_step fun K2 hK2=>?_
  rw [if_pos (by rfl)]
  obtain ⟨zo1,zz,zo2,zo3⟩:=zFX hz
  have hz1:=zo1 z (by simp)
  have hzc : (Builtin.zeroCells zz.cells (xs.length - k)).toList = List.replicate (xs.length - k) z:=by
    have : zz.cells = #[z]:=by apply Array.ext';rw [zo2]
    rw [this]
    simp [Builtin.zeroCells]
    apply List.ext_getElem
    · simp
    · intro i h1 h2
      simp [Nat.mod_one]
  have hst:=run_storeCells_at C.P b k e' (List.replicate (xs.length - k) z) 0 us w h2 (by simp;omega) (fun v hv=>by rw [List.eq_of_mem_replicate hv];exact hz1)
  simp only [Nat.add_zero,List.length_replicate] at hst
  have hev : (a.put (some d) (.slice (some ⟨b,k,none⟩) (xs.length - k) (g.cap id - k))).eval (.tmp d) = .slice (some ⟨b,k,none⟩) (xs.length - k) (g.cap id - k):=by
    have hdl : d < C.N:=by simpa using hd
    have:=ha.size
    simp only [Act.put,Act.eval]
    rw [Array.getD_eq_getD_getElem?,Array.getElem?_setIfInBounds_self_of_lt (by omega)];rfl
  have hne : xs.length - k ≠ 0:=by omega
  obtain ⟨nn,hnn⟩ : ∃ nn,xs.length - k = nn + 1:=⟨xs.length - k - 1,by omega⟩
  have hcl : (Builtin.clear_ #[t] ty2 #[.slice (some ⟨b,k,none⟩) (xs.length - k) (g.cap id - k)]).run C.P w = .ok (.tuple #[]) (w.setRow b (us.toList.take k ++ List.replicate (xs.length - k) z ++ us.toList.drop (k + (xs.length - k))).toArray):=by
    rw [hnn] at hzc hst ⊢
    simp [Builtin.clear_,run_underlying hu,zo3,hzc,hst]
  have hrun2 : (execOp (a.put (some d) (.slice (some ⟨b,k,none⟩) (xs.length - k) (g.cap id - k))).eval ⟨none,.call ⟨.builtin .clear, #[.tmp d], #[t]⟩,ty2,pos2,after2,none⟩).run C.P w = .ok (.value (.tuple #[])) (w.setRow b (us.toList.take k ++ List.replicate (xs.length - k) z ++ us.toList.drop (k + (xs.length - k))).toArray):=by
    simp only [execOp,resolve,invoke,builtin,Sem.run_bind,Sem.run_pure,Result.andThen_ok,List.map_toArray,List.map_cons,List.map_nil,hev,hcl]
  unfold Oper.wp
  rw [hrun2]
  refine hK2 _ _ ?_
  refine h Q hQ _ _ ?_
  have hset : ∀ x ∈ xs.take k ++ List.replicate (xs.length - k) (D.val z),x.flat.length = 1:=fun x hx=>by
    rcases List.mem_append.1 hx with h | h
    · exact o2 x (List.mem_of_mem_take h)
    · rw [List.eq_of_mem_replicate h];rfl
  have hkl : (us.toList.take k).length = k:=by rw [List.length_take,Array.length_toList];omega
  have hw:=ha.writeBuf (us':=(us.toList.take k ++ List.replicate (xs.length - k) z ++ us.toList.drop (k + (xs.length - k))).toArray) (xs':=xs.take k ++ List.replicate (xs.length - k) (.val z)) ho (Nat.le_of_ble_eq_true hro) h1 h2 (fun o hc=>by have:=(h6 o).1 hc;cases this.1) hset (by simp;omega) (by simp;omega) h3
    (fun j u hj hu=>?_) (fun j u d' hu hd'=>?_)
  · exact ⟨g,hw.put (d:=some d) (v:=.slice (some ⟨b,k,none⟩) (xs.length - k) (g.cap id - k)) (s:=.top) hd trivial⟩
  · rw [List.getElem?_toArray] at hu
    have hjl : j < xs.length:=by simp at hj;omega
    rcases Nat.lt_or_ge j k with hjk | hjk
    · rw [List.append_assoc,List.getElem?_append_left (by omega),List.getElem?_take,if_pos hjk,Array.getElem?_toList] at hu
      exact h4 j u (by omega) hu
    · rw [List.append_assoc,List.getElem?_append_right (by omega),hkl,List.getElem?_append_left (by simp;omega),List.getElem?_replicate] at hu
      split at hu
      · injection hu with hu;subst hu;exact hz1
      · cases hu
  · rw [List.getElem?_toArray] at hu
    rw [zCU,zDV o2,Nat.mul_one] at hd'
    have hfl : (zB4 xs).length = xs.length:=by rw [zBi o2,Nat.mul_one]
    have hfk : ((zB4 xs).take k).length = k:=by rw [List.length_take];omega
    have hfr : zB4 (List.replicate (xs.length - k) (D.val z)) = List.replicate (xs.length - k) (D.val z):=by
      generalize xs.length - k = q
      induction q with
      | zero=>rfl
      | succ q ih=>rw [List.replicate_succ,zB4,List.flatMap_cons, ← zB4,ih];rfl
    rcases Nat.lt_or_ge j k with hjk | hjk
    · rw [List.append_assoc,List.getElem?_append_left (by omega),List.getElem?_take,if_pos hjk,Array.getElem?_toList] at hu
      rw [List.getElem?_append_left (by omega),List.getElem?_take,if_pos hjk] at hd'
      exact h5 j u d' hu hd'
    · rw [List.getElem?_append_right (by omega),hfk,hfr,List.getElem?_replicate] at hd'
      split at hd'
      · rename_i hlt
        injection hd' with hd';subst hd'
        rw [List.append_assoc,List.getElem?_append_right (by omega),hkl,List.getElem?_append_left (by simp;omega),List.getElem?_replicate,if_pos hlt] at hu
        injection hu with hu;subst hu;exact .val z
      · cases hd'
end
end Go.Sx
