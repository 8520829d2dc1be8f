/- Texts of this claim, merged: InfE, InfH. -/
import Derived.Lib.SliceRun
import Derived.Test.YtblomnkamngnbaaGreatDoorMAR
import Derived.Test.YtblomnkamngnbaaGreatDoorMBA
namespace Go.Proofs.YtblomnkamngnbaaGreatDoor
open Go.Sx
theorem zGm (S : TS) : (zB7 S).nx = S.nx + 1:=by unfold zB7 zG0;split <;> (try split) <;> rfl
theorem zNn (S : TS) : (zB7 S).st = S.st:=by unfold zB7 zG0;split <;> (try split) <;> rfl
def nxI : Nat → TS → TS
  | 0,S=>S
  | k + 1,S=>nxI k (zB7 S)
theorem zNk : ∀ (k : Nat) (S : TS),nxI (k + 1) S = zB7 (nxI k S)
  | 0,S=>rfl
  | k + 1,S=>by rw [nxI,zNk k, ← nxI]
theorem zLO : ∀ (k : Nat) (S : TS),(nxI k S).nx = S.nx + k
  | 0,S=>by simp [nxI]
  | k + 1,S=>by rw [nxI,zLO k,zGm];omega
theorem zTc : ∀ (k : Nat) (S : TS),(nxI k S).st = S.st
  | 0,S=>rfl
  | k + 1,S=>by rw [nxI,zTc k,zNn]
theorem zFD : ∀ (l : List Int) (S : TS),(zCC l S).2 = nxI l.length S
  | [],S=>rfl
  | v :: r,S=>by rw [zCC,zFD r];rfl
theorem zHU : ∀ (l : List Int) (S : TS),(zCC l S).1.length = l.length
  | [],S=>rfl
  | v :: r,S=>by rw [zCC];simp [zHU r]
theorem zJY : ∀ (l m : List Int) (S : TS),zCC (l ++ m) S = ((zCC l S).1 ++ (zCC m (zCC l S).2).1,(zCC m (zCC l S).2).2)
  | [],m,S=>rfl
  | v :: r,m,S=>by rw [List.cons_append,zCC,zJY r m];rfl
theorem zMs {l : List Int} {i : Nat} {v : Int} (h : l[i]? = some v) (S : TS) : (zCC (l.take (i + 1)) S).1 = (zCC (l.take i) S).1 ++ [⟨v,varN (nxI i S).nx⟩]:=by
  have hi:=(List.getElem?_eq_some_iff.1 h).1
  rw [List.take_add_one,h,Option.toList_some,zJY,zFD,List.length_take,Nat.min_eq_left (by omega)];rfl
theorem zLm {l : List Int} {S : TS} {b : Bd} (h : b ∈ (zCC l S).1) : b.ty.length = 1:=by
  induction l generalizing S with
  | nil=>cases h
  | cons v r ih =>
    rw [zCC] at h
    rcases List.mem_cons.1 h with e | e
    · subst e;rfl
    · exact ih e
attribute [local irreducible] zAO Program.underlying Ylds zA3 alex zBY zBN awp zAm zBT zBe zAx zBA zBP zA2 zBR zBX zBa zBq zBI VCall
set_option maxHeartbeats 2000000 in
theorem zKx (L : List Nd) (E : List Sg) (S : TS) (t : List Nd) (vs : List Int) (ht : t.length ≤ 10000) (hv : vs.length ≤ 1000000) (h0 : 0 ≤ S.nx ∧ S.nx ≤ 3000000000000) :
    zAx Tryz.prog 111 [.ptr 0 0,.d (zAc t),.d (zBv vs)] (tyO L E S) (.d (zAc (zB0 S t vs).1)) (tyO L E (zB0 S t vs).2):=by
  have hap:=zOU (zCC vs S).1 t (by rw [zHU];omega) ht (fun b hb=>by rw [zLm hb];omega)
  refine zAw Tryz.func111 rfl Tryz.ntmps111 Tryz.results111 rfl rfl rfl ?_
  intro wb St0 X fx
  repeat' first | apply en_n|apply zAH|apply zAC|apply zAF|apply w0|apply ay (hd:=rfl)|exact zAE rfl|(apply zAr;exact rfl;(with_reducible exact zCU))|exact zAY rfl|apply zAJ
  refine zCO 7 false 147 2 rfl rfl ?_
  refine zAs (α:=Nat) (fun i=>i ≤ vs.length) (fun i=>[(0,.ptr 0 0),(1,.d (zAc t)),(7,.buf 3 ((zCC (vs.take i) S).1.map Bd.av).length),(10,.d (zBv vs)),(11,.d (i64 (vs.length : Int))),(12,.d (i64 (i : Int)))]) (fun i=>anch fx 0 (tyO L E S) (tyO L E (nxI i S)) ++ [.buf false 147 2 ((zCC (vs.take i) S).1.map Bd.av)]) (fun i=>vs.length - i) 0 (Nat.zero_le _)
    (zAL (zAA rfl (zAA rfl (zBs rfl rfl (zAA rfl (Le_d rfl rfl (zAA rfl zAW)))))) (zAB rfl rfl (zAB rfl rfl (zAB rfl rfl (zAl rfl rfl rfl zAK)))) rfl rfl) ?_
  intro i hi
  rcases Nat.lt_or_ge i vs.length with hlt | hge
  · have hn:=zFZ L E (nxI i S) (by rw [zLO];omega)
    rw [← zNk] at hn
    have hv' : vs[i]? = some vs[i]:=List.getElem?_eq_getElem hlt
    generalize vs[i] = v at hv'
    have e:=zMs hv' S
    have hfl:=zHU (vs.take i) S
    have htl : (vs.take i).length ≤ 1000000:=by rw [List.length_take];omega
    clear hap
    skip
    repeat' first | apply en_n|apply zAH|apply zAC|apply zAF|apply w0|(apply zBK;exact rfl;exact rfl;first|assumption|omega)|(apply aApp (id:=3) (hd:=rfl) (hro:=rfl);exact rfl;exact rfl;(first|exact zAn rfl|exact Co_bb rfl rfl rfl|exact Co_nn rfl);(first|exact rfl|exact (by simp));exact rfl;(with_reducible exact zG2);(with_reducible exact zGB);(with_reducible exact zPU);(with_reducible exact zOH);(first|exact zCc (fun _=>rfl)|exact zCP rfl))|(refine zAy [0,1,2] zEL (hn) ?_ rfl rfl (by decide) rfl rfl rfl rfl rfl rfl ?_;(repeat (refine zAI rfl ?_));exact zAM)|(apply zBS (cs:=[ival v,zAc (varN (nxI i S).nx)]);exact zP9;exact zPT;exact PD_d rfl rfl (PD_d rfl rfl zCF);exact rfl)|(apply aJ (hd:=rfl);(first|exact zAn rfl|exact Co_bb rfl rfl rfl|exact Co_nn rfl);exact rfl;(with_reducible exact zBD);assumption;omega;exact fun _=>rfl)|apply ay (hd:=rfl)|exact zAE rfl|exact zAD rfl|(apply zAi;exact rfl;(with_reducible exact zAz))|(apply zBG;exact rfl;exact rfl)|exact zAt rfl|exact zAj rfl|exact zAR rfl|(apply zCD;(with_reducible exact zG2);(with_reducible exact zGB);(with_reducible exact zPQ);exact rfl;exact rfl;(first|exact zAZ rfl zAG|exact zCo rfl rfl rfl zAG|exact zCs rfl zAG);exact rfl)|(apply zAQ;exact rfl)|apply zAJ|apply zAT|apply eb_n
    all_goals first | omega | skip
    · simp only [List.length_map,List.length_cons,List.length_nil];omega
    · exact ⟨i + 1,by omega,by omega,zAL (zAA rfl (zAA rfl (zBs rfl (by rw [e];simp) (zAA rfl (zAA rfl (zAA rfl zAW)))))) (zAB rfl rfl (zAB rfl rfl (zAB rfl rfl (zAl rfl rfl (by rw [e,List.map_append];rfl) zAK)))) rfl rfl⟩
  · have hap2 : zAm Tryz.prog 114 [binds (zCC (vs.take i) S).1,zAc t] (zAc (zB0 S t vs).1):=by
      rw [List.take_of_length_le hge];exact hap
    have he : (zB0 S t vs).2 = nxI i S:=by rw [zB0,zFD,show vs.length = i by omega]
    rw [he]
    clear hap
    skip
    repeat' first | apply en_n|apply zAH|apply zAC|apply zAF|apply w0|(apply zCJ;exact rfl;exact rfl;first|assumption|omega)|(refine zAX zN5 hap2 (zCo rfl rfl rfl (zAZ rfl zAG)))|apply ay (hd:=rfl)|exact zAE rfl|exact zAD rfl|exact zAt rfl|(apply zAU;exact rfl)|apply zAN|apply zAu|apply en_e|apply eb_e
    all_goals first | omega | skip
    exact zAh (zAL (zAA rfl zAW) (zAB rfl rfl (zAB rfl rfl (zAB rfl rfl zAK))) rfl rfl)
theorem zR6 (x : List UInt8) (u : Sg) : zBA Tryz.prog 132 [.d u.av,.ptr 0 0] [.box [.d (str x)]] (bl (decide (u.name = x))):=by
  refine zBw Tryz.func132 rfl Tryz.ntmps132 Tryz.results132 rfl ?_
  intro wb St0
  repeat' first | apply en_n|apply zAH|apply zAC|apply zAF|apply w0|exact zHa rfl rfl|(apply aBox (hd:=rfl) (hro:=rfl);exact rfl;exact rfl)|apply ay (hd:=rfl)|exact zAD rfl|(apply zAS;exact rfl;(with_reducible exact fg_0))|(apply zAV;exact rfl;(with_reducible exact zA4);exact rfl;exact rfl)|apply zAN|apply zAP|(apply res1;exact rfl)
  rfl
theorem zQy {E : List Sg} {p : Sg → Bool} {s : Sg} (h : E.find? p = some s) : ∃ k : Nat,E[k]? = some s ∧ idxP p E = k:=by
  rcases zEu (p:=p) (l:=E) with ⟨h1,_⟩ | ⟨k,x,h1,h2,h3⟩
  · rw [h1] at h;cases h
  · rw [h3] at h;injection h with h;subst h;exact ⟨k,h1,h2⟩
set_option maxHeartbeats 2000000 in
theorem zJs (L : List Nd) (E : List Sg) (S S' : TS) (x : List UInt8) (r : List Nd) (hE : E.length ≤ 1000000) (hT : ∀ s ∈ E,s.ty.length ≤ 10000) (h0 : 0 ≤ S.nx ∧ S.nx ≤ 3000000000000) (h : zHj E S x = some (r,S')) :
    zAx Tryz.prog 112 [.ptr 0 0,.d (str x)] (tyO L E S) (.d (zAc r)) (tyO L E S'):=by
  unfold zHj at h
  cases hf : E.find? (fun s=>decide (s.name = x)) with
  | none=>rw [hf] at h;cases h
  | some s =>
    rw [hf] at h
    dsimp only at h
    obtain ⟨k,hk,hi⟩:=zQy hf
    have hm:=hT s (List.mem_of_getElem? hk)
    have hif:=zRr 132 (str x) (fun u=>decide (u.name = x)) zSi (zR6 x) E (by omega)
    rw [hi] at hif
    have hvs:=zKt s.ty (by omega)
    have hvl : (zBb s.ty).length ≤ 1000000:=by
      unfold zBb;split
      · have:=zFQ s.ty []
        unfold zBu;simp only [List.length_nil] at this;omega
      · simp
    have hfr:=zKx L E S s.ty (zBb s.ty) hm hvl h0
    injection h with h
    rw [h] at hfr
    dsimp only at hfr
    generalize zBb s.ty = vs at *
    clear hf hT hE hi
    refine zAw Tryz.func112 rfl Tryz.ntmps112 Tryz.results112 rfl rfl rfl ?_
    intro wb St0 X fx
    repeat' first | apply en_n|apply zAH|apply zAC|apply zAF|apply w0|exact zAe rfl|(refine zA6 [3] [] rfl rfl zQi (hif) rfl ?_ rfl (by decide) rfl rfl rfl rfl;(repeat (refine zAI rfl ?_));exact zAM)|(refine zAX zIk hvs (zAZ rfl zAG))|(refine zDF (by kernel_rfl) ?_;refine zAy [0,1,2] zLd (hfr) ?_ rfl rfl (by decide) rfl rfl rfl rfl rfl rfl ?_;(repeat (refine zAI rfl ?_));exact zAM)|(apply aJ (hd:=rfl);(first|exact zAn rfl|exact Co_bb rfl rfl rfl|exact Co_nn rfl);exact rfl;(with_reducible exact zCL);assumption;omega;exact fun _=>rfl)|(apply aBox (hd:=rfl) (hro:=rfl);exact rfl;exact rfl)|apply ay (hd:=rfl)|exact zAE rfl|exact zAD rfl|(apply zA5;exact rfl;(with_reducible exact fg_1))|(apply zAi;exact rfl;(with_reducible exact zAg))|exact zAY rfl|exact zAR rfl|(apply zAS;exact rfl;(with_reducible exact fy_2))|(apply zAV;exact rfl;(with_reducible exact zIF);exact rfl;exact rfl)|exact zGV rfl|apply zAN|refine zBQ (by kernel_rfl) (by kernel_rfl) ?_
    exact zAh (zAL (zAA rfl zAW) (zAB rfl rfl (zAB rfl rfl (zAB rfl rfl zAK))) rfl rfl)
theorem zQz {N : List Lc} {p : Lc → Bool} : ∀ (j : Nat) {l : Lc},N[j]? = some l → p l = true → (∀ (k : Nat) u,j < k → N[k]? = some u → p u = false) → N.reverse.find? p = some l:=by
  induction N with
  | nil=>intro j l h;simp at h
  | cons a N ih =>
    intro j l hl hp hn
    rw [List.reverse_cons,List.find?_append]
    cases j with
    | zero =>
      simp at hl;subst hl
      have : N.reverse.find? p = none:=List.find?_eq_none.2 fun u hu=>by
        obtain ⟨k,hk⟩:=List.mem_iff_getElem?.1 (List.mem_reverse.1 hu)
        rw [hn (k + 1) u (by omega) (by simpa using hk)];simp
      rw [this];simp [hp]
    | succ j =>
      rw [ih j (by simpa using hl) hp fun k u hk hu=>hn (k + 1) u (by omega) (by simpa using hu)];rfl
theorem zO8 {N : List Lc} {p : Lc → Bool} (h : ∀ (k : Nat) u,N[k]? = some u → p u = false) : N.reverse.find? p = none:=List.find?_eq_none.2 fun u hu=>by
  obtain ⟨k,hk⟩:=List.mem_iff_getElem?.1 (List.mem_reverse.1 hu)
  rw [h k u hk];simp
set_option maxHeartbeats 2000000 in
theorem zSX (L : List Nd) (E : List Sg) (S S' : TS) (N : List Lc) (x : List UInt8) (r : List Nd) (hE : E.length ≤ 1000000) (hT : ∀ s ∈ E,s.ty.length ≤ 10000) (hN : N.length ≤ 1000000) (hNt : ∀ l ∈ N,l.t.length ≤ 10000 ∧ l.any.length ≤ 1000000) (h0 : 0 ≤ S.nx ∧ S.nx ≤ 3000000000000) (h : zEn E N S x = some (r,S')) :
    zAx Tryz.prog 67 [.ptr 0 0,.d (str x),.d (locs N)] (tyO L E S) (.d (zAc r)) (tyO L E S'):=by
  refine zAw Tryz.func67 rfl Tryz.ntmps67 Tryz.results67 rfl rfl rfl ?_
  intro wb St0 X fx
  unfold zEn at h
  repeat' first | apply en_n|apply zAH|apply zAC|apply zAF|apply w0|apply ay (hd:=rfl)|exact zAE rfl|exact zAD rfl|(apply zAr;exact rfl;(with_reducible exact zDS))|(apply zJC;exact rfl;exact rfl)|exact zAY rfl|apply zAJ
  · omega
  refine zAs (α:=Nat) (fun j=>j ≤ N.length ∧ ∀ (k : Nat) u,j ≤ k → N[k]? = some u → decide (u.name = x) = false) (fun j=>[(0,.ptr 0 0),(1,.d (str x)),(2,.d (locs N)),(7,.d (i64 ((j : Int) - 1)))]) (fun _=>anch fx 0 (tyO L E S) (tyO L E S)) (fun j=>j) N.length ⟨Nat.le_refl _,fun k u hk hu=>by have:=(List.getElem?_eq_some_iff.1 hu).1;omega⟩
    (zAL (zAA rfl (zAA rfl (zAA rfl (Le_d rfl rfl zAW)))) (zAB rfl rfl (zAB rfl rfl (zAB rfl rfl zAK))) rfl rfl) ?_
  rintro j ⟨hj,hn⟩
  rcases Nat.eq_zero_or_pos j with hz | hz
  · subst hz
    rw [zO8 fun k u hu=>hn k u (Nat.zero_le _) hu] at h
    have htd:=zJs L E S S' x r hE hT h0 h
    have hge : ¬ ((0 : Nat) : Int) - 1 ≥ 0:=by omega
    skip
    repeat' first | apply en_n|apply zAH|apply zAC|apply zAF|apply w0|(apply zWC;exact rfl;exact rfl;first|assumption|omega)|(refine zAy [0,1,2] zKL (htd) ?_ rfl rfl (by decide) rfl rfl rfl rfl rfl rfl ?_;(repeat (refine zAI rfl ?_));exact zAM)|apply ay (hd:=rfl)|exact zAE rfl|exact zAD rfl|exact zAR rfl|(apply zAU;exact rfl)|apply zAN|apply zAu|apply en_e|apply eb_e
    exact zAh (zAL (zAA rfl zAW) (zAB rfl rfl (zAB rfl rfl (zAB rfl rfl zAK))) rfl rfl)
  · obtain ⟨i,rfl⟩ : ∃ i,j = i + 1:=⟨j - 1,by omega⟩
    have hlt : i < N.length:=by omega
    have hl : N[i]? = some N[i]:=List.getElem?_eq_getElem hlt
    have hm:=hNt _ (List.getElem_mem hlt)
    generalize N[i] = l at *
    have e1 : ((i + 1 : Nat) : Int) - 1 = (i : Int):=by omega
    rw [e1]
    have hge : (i : Int) ≥ 0:=by omega
    by_cases hx : l.name = x
    · rw [zQz i hl (decide_eq_true hx) fun k u hk hu=>hn k u (by omega) hu] at h
      have hfr:=zKx L E S l.t l.any hm.1 hm.2 h0
      injection h with h
      rw [h] at hfr
      dsimp only at hfr
      skip
      repeat' first | apply en_n|apply zAH|apply zAC|apply zAF|apply w0|(apply zTz;exact rfl;exact rfl;first|assumption|omega)|(apply zT0;exact rfl;exact rfl;assumption)|(refine zDF (by kernel_rfl) ?_;refine zAy [0,1,2] zLd (hfr) ?_ rfl rfl (by decide) rfl rfl rfl rfl rfl rfl ?_;(repeat (refine zAI rfl ?_));exact zAM)|(apply aJ (hd:=rfl);(first|exact zAn rfl|exact Co_bb rfl rfl rfl|exact Co_nn rfl);exact rfl;(with_reducible exact zBy);assumption;omega;exact fun _=>rfl)|apply ay (hd:=rfl)|exact zAE rfl|exact zAD rfl|(apply zA5;exact rfl;(with_reducible first|exact fl_0|exact fl_1|exact fl_2))|(apply zAi;exact rfl;(with_reducible first|exact zAg|exact zJw|exact zA4))|exact zAR rfl|(apply zAQ;exact rfl)|apply zAJ|apply zAT|apply zAN|refine zBQ (by kernel_rfl) (by kernel_rfl) ?_|apply en_r|apply eb_r
      exact zAh (zAL (zAA rfl zAW) (zAB rfl rfl (zAB rfl rfl (zAB rfl rfl zAK))) rfl rfl)
    · skip
      repeat' first | apply en_n|apply zAH|apply zAC|apply zAF|apply w0|(apply zTz;exact rfl;exact rfl;first|assumption|omega)|(apply Y_eqsF;exact rfl;exact rfl;assumption)|(apply aJ (hd:=rfl);(first|exact zAn rfl|exact Co_bb rfl rfl rfl|exact Co_nn rfl);exact rfl;(with_reducible exact zBy);assumption;omega;exact fun _=>rfl)|apply ay (hd:=rfl)|exact zAE rfl|exact zAD rfl|(apply zA5;exact rfl;(with_reducible exact fl_0))|(apply zAi;exact rfl;(with_reducible exact zA4))|(apply zJC;exact rfl;exact rfl)|(apply zAQ;exact rfl)|(apply zAU;exact rfl)|apply zAJ|apply zAT|apply eb_n
      · omega
      · refine ⟨i,⟨by omega,fun k u hk hu=>?_⟩,by omega,zAL (zAA rfl (zAA rfl (zAA rfl (zAA rfl zAW)))) (zAB rfl rfl (zAB rfl rfl (zAB rfl rfl zAK))) rfl rfl⟩
        rcases Nat.lt_or_ge i k with h1 | h1
        · exact hn k u (by omega) hu
        · rw [show k = i by omega,hl] at hu;injection hu with hu;subst hu;exact decide_eq_false hx
end Go.Proofs.YtblomnkamngnbaaGreatDoor
namespace Go.Sx
open Go.RowKit
section
variable {C : Ctx} {ops : Array Oper} {rest : List Oper} {K : Sl → List Ob → Prop} {σ : Sl} {η : List Ob} {d : Nat} {ty ty2 : TypeId} {pos pos2 : String} {after after2 : Array Edge} {t : TypeId} {x y : Operand}
theorem zM8 {id m k e : Nat} {z : Value} {xs : List D} (hx : oval σ x = .buf id m) (hy : oval σ y = .d (.val (.int .i64 (k : Int)))) (ho : η[id]? = some (.buf true e 1 xs)) (hm : m = xs.length) (hk : k < m) (hs : zA9 C.P t = some 1) (he : zB8 C.P t = some e) (hz : zBk C.P e = some [z]) (hd : Nat.blt d C.N = true) (hro : Nat.ble C.ro id = true)
    (h : alex C false ops rest K ((d,.top) :: σ) (η.set id (.buf true e 1 (xs.take k ++ List.replicate (m - k) (.val z))))) :
    alex C false ops (⟨some d,.slice t x (some y) none none,ty,pos,after,none⟩ :: ⟨none,.call ⟨.builtin .clear, #[.tmp d], #[t]⟩,ty2,pos2,after2,none⟩ :: rest) K σ η:=by
  subst hm
  intro Q hQ a w hab
  refine wpList_step fun K' hK'=>?_
  obtain ⟨g,ha⟩:=hab
  rw [if_pos (by rfl)]
  obtain ⟨e',i,hu,hi',hsz⟩:=zBj hs
  have : e' = e:=by have:=zB9 he;rw [hu] at this;injection this with this;injection this
  subst this
  have hxr:=ha.eval x;rw [hx] at hxr
  obtain ⟨hid,hxv⟩:=hxr
  have hyr:=RepD.val_eq (show RepD g.St w _ _ from (hy ▸ ha.eval y))
  obtain ⟨o1,o2,o3,o4,o5⟩:=ha.inv.ob id _ ho
  obtain ⟨b,us,h1,h2,h3,h4,h5,h6⟩ : ∃ b us,g.blk id = some b ∧ w.heap[b]? = some (.cells us e' (0,0)) ∧ us.size = g.cap id * 1 ∧
        (∀ (j : Nat) (u : Value),j < xs.length * 1 → us[j]? = some u → u.oneCell' = true) ∧
        (∀ (j : Nat) (u : Value) (d : D),us[j]? = some u → (zB5 xs)[j]? = some d → RepD g.St w u d) ∧
        (∀ o,g.St b o ↔ (true = false ∧ o < xs.length * 1)):=by
    rcases o5 with ⟨q1,q2⟩ | h
    · omega
    · exact h
  rw [h1] at hxv
  simp only [Option.map_some] at hxv
  have hsl:=zGO hu hi' (some (⟨b,0,none⟩ : Addr)) xs.length (g.cap id) k xs.length (some (.int .i64 (k : Int))) none (.inr ⟨.i64,rfl⟩) (.inl ⟨rfl,rfl⟩) (by omega) o4 w
  rw [if_neg (by omega),hsz,Nat.mul_one] at hsl
  have hrun1 : (execOp a.eval ⟨some d,.slice t x (some y) none none,ty,pos,after,none⟩).run C.P w = .ok (.value (.slice (some ⟨b,k,none⟩) (xs.length - k) (g.cap id - k))) w:=by
    simp only [execOp,hxv,hyr,Sem.run_bind,Sem.run_pure,Option.map_some,Option.map_none,hsl,Result.andThen_ok]
    simp [Addr.add_lit]
  unfold Oper.wp
  rw [hrun1]
  refine hK' _ _ ?_
  refine wpList_step fun K2 hK2=>?_
  rw [if_pos (by rfl)]
  obtain ⟨zo1,zz,zo2,zo3⟩:=zFu hz
  have hz1:=zo1 z (by simp)
  have hzc : (Builtin.zeroCells zz.cells (xs.length - k)).toList = List.replicate (xs.length - k) z:=by
    have : zz.cells = #[z]:=by apply Array.ext';rw [zo2]
    rw [this]
    simp [Builtin.zeroCells]
    apply List.ext_getElem
    · simp
    · intro i h1 h2
      simp [Nat.mod_one]
  have hst:=run_storeCells_at C.P b k e' (List.replicate (xs.length - k) z) 0 us w h2 (by simp;omega) (fun v hv=>by rw [List.eq_of_mem_replicate hv];exact hz1)
  simp only [Nat.add_zero,List.length_replicate] at hst
  have hev : (a.put (some d) (.slice (some ⟨b,k,none⟩) (xs.length - k) (g.cap id - k))).eval (.tmp d) = .slice (some ⟨b,k,none⟩) (xs.length - k) (g.cap id - k):=by
    have hdl : d < C.N:=by simpa using hd
    have:=ha.size
    simp only [Act.put,Act.eval]
    rw [Array.getD_eq_getD_getElem?,Array.getElem?_setIfInBounds_self_of_lt (by omega)];rfl
  have hne : xs.length - k ≠ 0:=by omega
  obtain ⟨nn,hnn⟩ : ∃ nn,xs.length - k = nn + 1:=⟨xs.length - k - 1,by omega⟩
  have hcl : (Builtin.clear_ #[t] ty2 #[.slice (some ⟨b,k,none⟩) (xs.length - k) (g.cap id - k)]).run C.P w = .ok (.tuple #[]) (w.setRow b (us.toList.take k ++ List.replicate (xs.length - k) z ++ us.toList.drop (k + (xs.length - k))).toArray):=by
    rw [hnn] at hzc hst ⊢
    simp [Builtin.clear_,run_underlying hu,zo3,hzc,hst]
  have hrun2 : (execOp (a.put (some d) (.slice (some ⟨b,k,none⟩) (xs.length - k) (g.cap id - k))).eval ⟨none,.call ⟨.builtin .clear, #[.tmp d], #[t]⟩,ty2,pos2,after2,none⟩).run C.P w = .ok (.value (.tuple #[])) (w.setRow b (us.toList.take k ++ List.replicate (xs.length - k) z ++ us.toList.drop (k + (xs.length - k))).toArray):=by
    simp only [execOp,resolve,invoke,builtin,Sem.run_bind,Sem.run_pure,Result.andThen_ok,List.map_toArray,List.map_cons,List.map_nil,hev,hcl]
  unfold Oper.wp
  rw [hrun2]
  refine hK2 _ _ ?_
  refine h Q hQ _ _ ?_
  have hset : ∀ x ∈ xs.take k ++ List.replicate (xs.length - k) (D.val z),x.flat.length = 1:=fun x hx=>by
    rcases List.mem_append.1 hx with h | h
    · exact o2 x (List.mem_of_mem_take h)
    · rw [List.eq_of_mem_replicate h];rfl
  have hkl : (us.toList.take k).length = k:=by rw [List.length_take,Array.length_toList];omega
  have hw:=ha.writeBuf (us':=(us.toList.take k ++ List.replicate (xs.length - k) z ++ us.toList.drop (k + (xs.length - k))).toArray) (xs':=xs.take k ++ List.replicate (xs.length - k) (.val z)) ho (Nat.le_of_ble_eq_true hro) h1 h2 (fun o hc=>by have:=(h6 o).1 hc;cases this.1) hset (by simp;omega) (by simp;omega) h3
    (fun j u hj hu=>?_) (fun j u d' hu hd'=>?_)
  · exact ⟨g,hw.put (d:=some d) (v:=.slice (some ⟨b,k,none⟩) (xs.length - k) (g.cap id - k)) (s:=.top) hd trivial⟩
  · rw [List.getElem?_toArray] at hu
    have hjl : j < xs.length:=by simp at hj;omega
    rcases Nat.lt_or_ge j k with hjk | hjk
    · rw [List.append_assoc,List.getElem?_append_left (by omega),List.getElem?_take,if_pos hjk,Array.getElem?_toList] at hu
      exact h4 j u (by omega) hu
    · rw [List.append_assoc,List.getElem?_append_right (by omega),hkl,List.getElem?_append_left (by simp;omega),List.getElem?_replicate] at hu
      split at hu
      · injection hu with hu;subst hu;exact hz1
      · cases hu
  · rw [List.getElem?_toArray] at hu
    rw [zCh,zDb o2,Nat.mul_one] at hd'
    have hfl : (zB5 xs).length = xs.length:=by rw [zBh o2,Nat.mul_one]
    have hfk : ((zB5 xs).take k).length = k:=by rw [List.length_take];omega
    have hfr : zB5 (List.replicate (xs.length - k) (D.val z)) = List.replicate (xs.length - k) (D.val z):=by
      generalize xs.length - k = q
      induction q with
      | zero=>rfl
      | succ q ih=>rw [List.replicate_succ,zB5,List.flatMap_cons, ← zB5,ih];rfl
    rcases Nat.lt_or_ge j k with hjk | hjk
    · rw [List.append_assoc,List.getElem?_append_left (by omega),List.getElem?_take,if_pos hjk,Array.getElem?_toList] at hu
      rw [List.getElem?_append_left (by omega),List.getElem?_take,if_pos hjk] at hd'
      exact h5 j u d' hu hd'
    · rw [List.getElem?_append_right (by omega),hfk,hfr,List.getElem?_replicate] at hd'
      split at hd'
      · rename_i hlt
        injection hd' with hd';subst hd'
        rw [List.append_assoc,List.getElem?_append_right (by omega),hkl,List.getElem?_append_left (by simp;omega),List.getElem?_replicate,if_pos hlt] at hu
        injection hu with hu;subst hu;exact .val z
      · cases hd'
end
end Go.Sx
