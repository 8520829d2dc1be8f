/- Texts of this claim, merged: InfYB, InfXF, InfXG. -/
import Derived.Test.YtblomnkamngnbaaGreatDoorMAI
import Derived.Test.YtblomnkamngnbaaGreatDoorMAP
import Derived.Test.YtblomnkamngnbaaGreatDoorMBF
import Derived.Test.YtblomnkamngnbaaGreatDoorMBI
import Derived.Test.YtblomnkamngnbaaGreatDoorMBP
namespace Go.Proofs.YtblomnkamngnbaaGreatDoor
open Go.Sx
theorem zP4 {St : Stab} {w : World} : RepD St w (.slice none 0 0) (.slice []) :=
  .slice none 0 0 0 [] [] rfl (Nat.le_refl _) (Nat.zero_le _) (fun x hx=>by cases hx) rfl (fun u hu=>by cases hu) (fun h=>absurd h (by simp)) (fun j u d hu=>by simp at hu)
theorem zOq {P : Program} {f : FuncId} {a b : SV} {pre post : List Ob} {r : SV} (h : zAx P f [a,b,.d (.slice [])] pre r post) : zAx P f [a,b,.nil] pre r post:=by
  intro g w vs hi hr
  refine h g w vs hi ?_
  match vs,hr with
  | [u,v,x],⟨h1,h2,h3,h4⟩ =>
    have h3 : x = .slice none 0 0:=h3
    subst h3
    exact ⟨h1,h2,zP4,h4⟩
attribute [local irreducible] zAO Program.underlying Ylds zA3 alex zBY zBN awp zAm zBT zBe zAx zBA zBP zA2 zBR zBX zBa zBq zBI VCall
theorem zQY (L : List Nd) (hL : L.length ≤ 1000000) (hw : zCH L = false) : zAm Tryz.prog 12 [zAc L] (bl false):=by
  have hc:=zLE L hL hw
  refine zAd Tryz.func12 rfl Tryz.ntmps12 Tryz.results12 rfl ?_
  intro wb St0
  repeat' first | apply en_n|apply zAH|apply zAC|apply zAF|apply w0|(apply k1u (hd:=rfl);exact rfl;exact rfl)|(apply zBW;exact rfl;exact rfl;first|assumption|omega)|(refine zAX zCz hc (zAZ rfl zAG))|apply ay (hd:=rfl)|exact zAE rfl|exact zAD rfl|exact zAo rfl rfl|apply zAN|apply zAP|(apply res1;exact rfl)
  all_goals rfl
def zIC (t : Tr) : Bool:=decide (chkT t false = 0) && t.val
theorem zJh {t : Tr} (h : chkT t false = 0) : t.sz ≤ 4000 ∧ zEN t.fl ≤ 100 ∧ t.werr false = 0 ∧ t.tw = false:=by
  unfold chkT at h
  split at h
  · cases h
  · rename_i h1
    split at h
    · rename_i h2;exact absurd h h2
    · rename_i h2
      split at h
      · cases h
      · rename_i h3;exact ⟨by omega,by omega,by omega,by simpa using h3⟩
theorem zIe (t : Tr) (hw : t.wf) (hL : t.fl.length ≤ 1000000) : zAm Tryz.prog 12 [zAc t.fl] (bl (zIC t)):=by
  have hc:=zEl t hw hL
  unfold zIC
  refine zAd Tryz.func12 rfl Tryz.ntmps12 Tryz.results12 rfl ?_
  intro wb St0
  by_cases h0 : chkT t false = 0
  · have hv:=zHr t.fl (by omega) t.sz 0 t (Nat.le_refl _) (.top hw) (zJh h0).2.2.1
    rw [h0] at hc
    rw [decide_eq_true h0,Bool.true_and]
    generalize t.val = v at *
    clear h0
    skip
    repeat' first | apply en_n|apply zAH|apply zAC|apply zAF|apply w0|(apply zBV;exact rfl;exact rfl;first|assumption|omega)|(refine zAX zCz hc (zAZ rfl zAG))|(refine zAX zFh hv (zAZ rfl (zAZ rfl zAG)))|apply ay (hd:=rfl)|exact zAE rfl|exact zAD rfl|exact zAq rfl rfl|(apply w1;exact rfl;exact rfl)|apply zAN|apply zAP|(apply res1;exact rfl)
    all_goals rfl
  · rw [decide_eq_false h0,Bool.false_and]
    generalize chkT t false = e at *
    skip
    repeat' first | apply en_n|apply zAH|apply zAC|apply zAF|apply w0|(apply k1u (hd:=rfl);exact rfl;exact rfl)|(apply zBW;exact rfl;exact rfl;first|assumption|omega)|(refine zAX zCz hc (zAZ rfl zAG))|apply ay (hd:=rfl)|exact zAE rfl|exact zAD rfl|exact zAo rfl rfl|apply zAN|apply zAP|(apply res1;exact rfl)
    all_goals rfl
theorem zTO (E : List Sg) (L : List Nd) (hL : L.length ≤ 1000000) (hw : zCH L = false) : zAm Tryz.prog 15 [sigs E,zAc L] (.tup [.slice [],i64 60]):=by
  have hc:=zLE L hL hw
  refine zAd Tryz.func15 rfl Tryz.ntmps15 Tryz.results15 rfl ?_
  intro wb St0
  repeat' first | apply en_n|apply zAH|apply zAC|apply zAF|apply w0|(apply zCT;exact rfl;exact rfl;first|assumption|omega)|(refine zAX zCz hc (zAZ rfl zAG))|apply ay (hd:=rfl)|exact zAE rfl|exact zAD rfl|exact zAY rfl|(apply zAQ;exact rfl)|apply zAN|apply en_r|apply zAP|(apply zOj;exact rfl;exact rfl)
  all_goals rfl
theorem zRo (E : List Sg) (t : Tr) (hw : t.wf) (hL : t.fl.length ≤ 1000000) (h : chkT t false ≠ 0) : zAm Tryz.prog 15 [sigs E,zAc t.fl] (.tup [.slice [],i64 (chkT t false)]):=by
  have hc:=zEl t hw hL
  refine zAd Tryz.func15 rfl Tryz.ntmps15 Tryz.results15 rfl ?_
  intro wb St0
  generalize chkT t false = e at *
  repeat' first | apply en_n|apply zAH|apply zAC|apply zAF|apply w0|(apply zCT;exact rfl;exact rfl;first|assumption|omega)|(refine zAX zCz hc (zAZ rfl zAG))|apply ay (hd:=rfl)|exact zAE rfl|exact zAD rfl|exact zAY rfl|(apply zAQ;exact rfl)|apply zAN|apply en_r|apply zAP|(apply zOj;exact rfl;exact rfl)
  all_goals rfl
theorem zRn (E : List Sg) (t : Tr) (hw : t.wf) (hL : t.fl.length ≤ 1000000) (hE : E.length ≤ 1000000) (hT : ∀ s ∈ E,s.ty.length ≤ 1000000) (h : chkT t false = 0) (he : envF E = false) : zAm Tryz.prog 15 [sigs E,zAc t.fl] (.tup [.slice [],i64 110]):=by
  have hc:=zEl t hw hL
  rw [h] at hc
  have hk:=zGw E hE hT
  rw [he,if_neg (by decide)] at hk
  refine zAd Tryz.func15 rfl Tryz.ntmps15 Tryz.results15 rfl ?_
  intro wb St0
  clear he h
  repeat' first | apply en_n|apply zAH|apply zAC|apply zAF|apply w0|(apply zCT;exact rfl;exact rfl;first|assumption|omega)|(apply zBm;exact rfl;exact rfl;first|assumption|omega)|(refine zAX zCz hc (zAZ rfl zAG))|(refine zAX zFj hk (zAZ rfl zAG))|apply ay (hd:=rfl)|exact zAE rfl|exact zAD rfl|exact zAY rfl|(apply zAQ;exact rfl)|(apply zAU;exact rfl)|apply zAT|apply zAN|apply en_r|apply zAP|(apply zOj;exact rfl;exact rfl)
  all_goals rfl
theorem zLo (t : Tr) : (zDa t).length ≤ t.sz:=by
  unfold zDa
  split
  · have:=zFE t [] [];simpa using this
  · simp
theorem zPN (E : List Sg) (t : Tr) (hw : t.wf) (hL : t.fl.length ≤ 1000000) (hE : E.length ≤ 1000000) (hT : ∀ s ∈ E,s.ty.length ≤ 1000000) (h : chkT t false = 0) (he : envF E = true) (hn : nmdF E t.fl (zDa t) = false) : zAm Tryz.prog 15 [sigs E,zAc t.fl] (.tup [.slice [],i64 111]):=by
  have hc:=zEl t hw hL
  rw [h] at hc
  have hk:=zGw E hE hT
  rw [he,if_pos rfl] at hk
  have hfl:=zLo t
  have hm:=zLW E t.fl (zDa t) hE hT hL (by rw [Tr.fl_len] at hL;omega) (zRs t hw hL)
  rw [hn] at hm
  refine zAd Tryz.func15 rfl Tryz.ntmps15 Tryz.results15 rfl ?_
  intro wb St0
  clear he h hn hfl
  repeat' first | apply en_n|apply zAH|apply zAC|apply zAF|apply w0|(apply zBm;exact rfl;exact rfl;first|assumption|omega)|(refine zAX zCz hc (zAZ rfl zAG))|(refine zAX zFj hk (zAZ rfl zAG))|(refine zAX zKR hm (zAZ rfl (zAZ rfl zAG)))|apply ay (hd:=rfl)|exact zAE rfl|exact zAD rfl|exact zCS rfl|exact zAY rfl|(apply zAQ;exact rfl)|(apply zAU;exact rfl)|apply zAT|apply zAN|apply en_r|apply zAP|(apply zOj;exact rfl;exact rfl)
  all_goals rfl
abbrev TS0 : TS:=⟨0,[],0⟩
set_option maxHeartbeats 4000000 in
theorem zRm (E : List Sg) (t : Tr) (q : Nat) (u r : List Nd) (S1 S2 : TS) (hw : t.wf) (hz : t.sz ≤ 4000) (hE : E.length ≤ 1000000) (hT : ∀ s ∈ E,s.ty.length ≤ 10000) (h : chkT t false = 0) (he : envF E = true) (hn : nmdF E t.fl (zDa t) = true)
    (h1 : t.expS q E [] TS0 = some (u,S1)) (h2 : zCI q S1 u = some (r,S2)) (_hr : S2.er = 0 → okT r = true) : zAm Tryz.prog 15 [sigs E,zAc t.fl] (if S2.er = 0 then .tup [zAc (zB2 r),i64 0] else .tup [.slice [],i64 S2.er]):=by
  have hL : t.fl.length ≤ 1000000:=by rw [Tr.fl_len];omega
  have hc:=zEl t hw hL
  have hw0:=(zJh h).2.2.1
  rw [h] at hc
  have hk:=zGw E hE (fun s hs=>by have:=hT s hs;omega)
  rw [he,if_pos rfl] at hk
  have hfl:=zLo t
  have hm:=zLW E t.fl (zDa t) hE (fun s hs=>by have:=hT s hs;omega) hL (by omega) (zRs t hw hL)
  rw [hn] at hm
  have hA : Ask E [] TS0 t.sz:=⟨hE,hT,by simp;omega,fun l hl=>(by cases hl),fun p hp=>(by cases hp),by show (0 : Int) ≤ 0 ∧ (0 : Int) + 5000 * (t.sz : Int) ≤ 2000000000000;omega⟩
  have hx:=zTo (E:=E) (q:=q) (L:=t.fl) (by omega) t.sz 0 t [] TS0 S1 u (Nat.le_refl _) (.top hw) hw0 (by omega) hA h1
  obtain ⟨b1,b2⟩:=zBi hT t.sz t (Nat.le_refl _) hw hw0 (by omega) (fun l hl=>(by cases hl)) h1
  have hx:=zOq hx
  have hkn:=zKF t.fl E S1 S2 q u r (by omega) (b1.st fun p hp=>by cases hp) h2
  have hrl:=zF2 h2 (by omega)
  have hcn:=zTQ r (by omega)
  clear he h hn hfl hw0 hA b1 b2 h1 h2 _hr
  by_cases h0 : S2.er = 0
  · rw [if_pos h0]
    refine zAd Tryz.func15 rfl Tryz.ntmps15 Tryz.results15 rfl ?_
    intro wb St0
    repeat' first | (refine zBt (id:=10) (s:=[(0,.d (sigs E)),(1,.d (zAc t.fl)),(4,.nil),(5,.d (i64 0)),(8,.ptr 2 0)]) (h:=[.map none (mSto []),.bx none none [.d (i64 0),.mp 0],.bx none none [.ptr 1 0,.d (zAc t.fl),.d (sigs E),.d (i64 0)]]) (zAL (zAA rfl (zAA rfl (zAA rfl (zAA rfl (zAA rfl zAW))))) (zAB rfl rfl (zAB rfl rfl (zHD rfl zEb zAK))) rfl rfl) ?_)|(apply zG9;(with_reducible exact zNh);(with_reducible exact zNF);exact zEf rfl (zEf rfl (zEf rfl zOO));exact rfl;exact rfl;exact rfl;exact rfl)|apply en_n|apply zAH|apply zAC|apply zAF|apply w0|(apply zBm;exact rfl;exact rfl;first|assumption|omega)|(refine zAX zCz hc (zAZ rfl zAG))|(refine zAX zFj hk (zAZ rfl zAG))|(refine zAX zKR hm (zAZ rfl (zAZ rfl zAG)))|(refine zTx [] zIl (zI9 0) ?_ rfl rfl (by decide) rfl rfl rfl rfl rfl rfl ?_;(repeat (refine zAI rfl ?_));exact zAM)|exact zAe rfl|(refine zAy [2,1,0] zDO (hx) ?_ rfl rfl (by decide) rfl rfl rfl rfl rfl rfl ?_;(repeat (refine zAI rfl ?_));exact zAM)|(refine zAy [2,1,0] zHy (hkn) ?_ rfl rfl (by decide) rfl rfl rfl rfl rfl rfl ?_;(repeat (refine zAI rfl ?_));exact zAM)|(refine zAX zSt hcn (zAZ rfl zAG))|apply ay (hd:=rfl)|exact zAE rfl|exact zAD rfl|exact zCS rfl|exact zAY rfl|exact zAR rfl|exact zEa rfl|(apply zAS;exact rfl;(with_reducible exact fy_3))|(apply zAV;exact rfl;(with_reducible exact zCt);exact rfl;exact rfl)|(apply zAU;exact rfl)|apply zAT|apply zAN|apply zAP|(apply res2;exact rfl;exact rfl)
    all_goals rfl
  · rw [if_neg h0]
    refine zAd Tryz.func15 rfl Tryz.ntmps15 Tryz.results15 rfl ?_
    intro wb St0
    repeat' first | (refine zBt (id:=10) (s:=[(0,.d (sigs E)),(1,.d (zAc t.fl)),(4,.nil),(5,.d (i64 0)),(8,.ptr 2 0)]) (h:=[.map none (mSto []),.bx none none [.d (i64 0),.mp 0],.bx none none [.ptr 1 0,.d (zAc t.fl),.d (sigs E),.d (i64 0)]]) (zAL (zAA rfl (zAA rfl (zAA rfl (zAA rfl (zAA rfl zAW))))) (zAB rfl rfl (zAB rfl rfl (zHD rfl zEb zAK))) rfl rfl) ?_)|(apply zG9;(with_reducible exact zNh);(with_reducible exact zNF);exact zEf rfl (zEf rfl (zEf rfl zOO));exact rfl;exact rfl;exact rfl;exact rfl)|apply en_n|apply zAH|apply zAC|apply zAF|apply w0|(apply zCT;exact rfl;exact rfl;first|assumption|omega)|(apply zBm;exact rfl;exact rfl;first|assumption|omega)|(refine zAX zCz hc (zAZ rfl zAG))|(refine zAX zFj hk (zAZ rfl zAG))|(refine zAX zKR hm (zAZ rfl (zAZ rfl zAG)))|(refine zTx [] zIl (zI9 0) ?_ rfl rfl (by decide) rfl rfl rfl rfl rfl rfl ?_;(repeat (refine zAI rfl ?_));exact zAM)|exact zAe rfl|(refine zAy [2,1,0] zDO (hx) ?_ rfl rfl (by decide) rfl rfl rfl rfl rfl rfl ?_;(repeat (refine zAI rfl ?_));exact zAM)|(refine zAy [2,1,0] zHy (hkn) ?_ rfl rfl (by decide) rfl rfl rfl rfl rfl rfl ?_;(repeat (refine zAI rfl ?_));exact zAM)|apply ay (hd:=rfl)|exact zAE rfl|exact zAD rfl|exact zCS rfl|exact zAY rfl|exact zAR rfl|exact zEa rfl|(apply zAS;exact rfl;(with_reducible exact fy_3))|(apply zAV;exact rfl;(with_reducible exact zCt);exact rfl;exact rfl)|(apply zAQ;exact rfl)|(apply zAU;exact rfl)|apply zAT|apply zAN|refine zBQ (by kernel_rfl) (by kernel_rfl) ?_|apply en_r|apply zAP|(apply zOj;exact rfl;exact rfl)
    all_goals rfl
end Go.Proofs.YtblomnkamngnbaaGreatDoor
namespace Go.Proofs.YtblomnkamngnbaaGreatDoor
theorem zLn {t : Tr} (h : chkT t false = 0) (z : List UInt8) : z ∈ zDa t ↔ t.fr z:=by
  rw [zDa,if_pos h,Tr.free_mem]
  simp [lkB]
theorem zK3 {E : List Sg} {z : List UInt8} : zHG E z < 0 ↔ zDV E z = none:=by
  rcases zEu (p:=fun u : Sg=>decide (u.name = z)) (l:=E) with ⟨h1,h2⟩ | ⟨k,s,h1,h2,h3⟩
  · constructor
    · exact fun _=>h1
    · intro _;show idxP _ E < 0;omega
  · constructor
    · intro h;have h4 : idxP (fun u : Sg=>decide (u.name = z)) E < 0:=h;omega
    · intro h;rw [show zDV E z = some s from h3] at h;cases h
theorem zOD {E : List Sg} {x : Nd} : conB E x = true ↔ ((x.kind = 4 → (zDV E x.text).isSome = true) ∧ (x.kind = 24 → ∃ s,zDV E x.text = some s ∧ ((zBp s.ty).1.length : Int) = x.kids)):=by
  unfold conB
  by_cases h4 : x.kind = 4
  · rw [if_pos (.inl h4)]
    have h24 : ¬ x.kind = 24:=by omega
    cases hf : E.find? (fun s=>decide (s.name = x.text)) with
    | none=>simp [zDV,hf,h4]
    | some s=>simp [zDV,hf,h4]
  · by_cases h24 : x.kind = 24
    · rw [if_pos (.inr h24)]
      cases hf : E.find? (fun s=>decide (s.name = x.text)) with
      | none=>simp [zDV,hf,h24]
      | some s=>simp [zDV,hf,h24]
    · rw [if_neg (by omega)];simp [h4,h24]
theorem zE8 {E : List Sg} {t : Tr} (h : chkT t false = 0) : nmdF E t.fl (zDa t) = true ↔ Cons E t.fl ∧ ∀ z,t.fr z → (zDV E z).isSome = true:=by
  rw [nmdF,Bool.and_eq_true,List.all_eq_true,Bool.not_eq_true',List.any_eq_false]
  constructor
  · rintro ⟨h1,h2⟩
    refine ⟨fun n hn=>zOD.1 (h1 n hn),fun z hz=>?_⟩
    have h3:=h2 z ((zLn h z).2 hz)
    rw [decide_eq_true_eq,zK3] at h3
    exact Option.isSome_iff_ne_none.2 h3
  · rintro ⟨h1,h2⟩
    refine ⟨fun n hn=>zOD.2 (h1 n hn),fun z hz=>?_⟩
    rw [decide_eq_true_eq,zK3]
    exact Option.isSome_iff_ne_none.1 (h2 z ((zLn h z).1 hz))
def sgOk (s : Sg) : Prop:=(zD1 s.name = true ∨ conF s.name = true) ∧ okT s.ty = true ∧ (conF s.name = true → conF (((zBp s.ty).2.map Nd.text).headD []) = true)
theorem zS1 {E : List Sg} {i : Nat} {s : Sg} : envB E i s = false ↔ sgOk s ∧ ∀ u ∈ E.take i,u.name ≠ s.name:=by
  unfold envB sgOk
  rw [← zRB]
  simp only [Bool.or_eq_false_iff,decide_eq_false_iff_not,List.any_eq_false,decide_eq_true_eq]
  cases zD1 s.name <;> cases conF s.name <;> cases conF (((zBp s.ty).2.map Nd.text).headD []) <;> simp
theorem zLx (E : List Sg) : ∀ (R P : List Sg),E = P ++ R → (zKe E P.length R = true ↔ (∀ s ∈ R,sgOk s) ∧ R.Pairwise (fun a b=>a.name ≠ b.name) ∧ ∀ a ∈ P,∀ b ∈ R,a.name ≠ b.name)
  | [],P,h=>by simp [zKe]
  | s :: R,P,h=>by
    have ih:=zLx E R (P ++ [s]) (by rw [h];simp)
    rw [List.length_append,List.length_singleton] at ih
    rw [zKe,Bool.and_eq_true,Bool.not_eq_true',ih,zS1]
    have ht : E.take P.length = P:=by rw [h,List.take_left]
    rw [ht]
    simp only [List.mem_cons,List.pairwise_cons,List.mem_append,List.not_mem_nil,or_false]
    constructor
    · rintro ⟨⟨h1,h2⟩,h3,h4,h5⟩
      refine ⟨fun u hu=>hu.elim (fun e=>e ▸ h1) (h3 u),⟨fun b hb=>h5 s (.inr rfl) b hb,h4⟩,fun a ha b hb=>hb.elim (fun e=>e ▸ h2 a ha) (h5 a (.inl ha) b)⟩
    · rintro ⟨h1,⟨h2,h3⟩,h4⟩
      exact ⟨⟨h1 s (.inl rfl),fun u hu=>h4 u hu s (.inl rfl)⟩,fun u hu=>h1 u (.inr hu),h3,fun a ha b hb=>ha.elim (fun h=>h4 a h b (.inr hb)) (fun e=>e ▸ h2 b hb)⟩
theorem zKf {E : List Sg} : envF E = true ↔ (∀ s ∈ E,sgOk s) ∧ E.Pairwise (fun a b=>a.name ≠ b.name):=by
  have:=zLx E E [] rfl
  rw [envF]
  simpa using this
theorem zKC {s : List UInt8} (h : zD1 s = true) : conF s = false:=by
  have e1 : zEI ⟨1,s,0,0⟩ = zGn zDt s:=by unfold zEI;simp
  have e2 : zEI ⟨2,s,0,0⟩ = zGn zDY s:=by unfold zEI;simp
  have e5 : zEI ⟨5,s,0,0⟩ = (allF zDT s && !zMm s):=by unfold zEI;simp
  rw [conF,e2]
  rw [zD1,e1,e5,Bool.or_eq_true] at h
  have hg : ∀ c,zDY c = true → zDt c = false ∧ zDT c = false:=zK2 (by decide +kernel)
  cases hq : zGn zDY s with
  | false=>rfl
  | true =>
    unfold zGn at hq h
    simp only [Bool.and_eq_true] at hq h
    obtain ⟨h1,h2⟩:=hg _ hq.1.2
    rcases h with ⟨⟨_,h3⟩,_⟩ | ⟨h3,_⟩
    · rw [h1] at h3;cases h3
    · unfold allF at h3
      simp only [Bool.and_eq_true,List.all_eq_true] at h3
      cases s with
      | nil=>simp at h3
      | cons c r =>
        have:=h3.1 c List.mem_cons_self
        rw [show (c :: r).getD 0 0 = c from rfl] at h2
        rw [h2] at this;cases this
inductive IR (E : List Sg) : List Nd → List Nd → Int → Prop
  | no (L : List Nd) : zCH L = false → IR E L [] 60
  | chk (t : Tr) : t.wf → chkT t false ≠ 0 → IR E t.fl [] (chkT t false)
  | env (t : Tr) : t.wf → chkT t false = 0 → envF E = false → IR E t.fl [] 110
  | name (t : Tr) : t.wf → chkT t false = 0 → envF E = true → nmdF E t.fl (zDa t) = false → IR E t.fl [] 111
  | run (t : Tr) (q : Nat) (u r : List Nd) (S1 S2 : TS) : t.wf → chkT t false = 0 → envF E = true → nmdF E t.fl (zDa t) = true → t.expS q E [] TS0 = some (u,S1) → zCI q S1 u = some (r,S2) → (S2.er = 0 → okT r = true) →
      IR E t.fl (if S2.er = 0 then zB2 r else []) S2.er
open Go.Sx in
theorem IR.call {E : List Sg} {L r : List Nd} {e : Int} (h : IR E L r e) (hL : L.length ≤ 4000) (hE : E.length ≤ 1000) (hT : ∀ s ∈ E,s.ty.length ≤ 10000) : zAm Tryz.prog 15 [sigs E,zAc L] (.tup [zAc r,i64 e]):=by
  cases h with
  | no _ hw=>exact zTO E L (by omega) hw
  | chk t hw hc=>exact zRo E t hw (by omega) hc
  | env t hw hc he=>exact zRn E t hw (by omega) (by omega) (fun s hs=>by have:=hT s hs;omega) hc he
  | name t hw hc he hn=>exact zPN E t hw (by omega) (by omega) (fun s hs=>by have:=hT s hs;omega) hc he hn
  | run t q u r S1 S2 hw hc he hn h1 h2 hr =>
    have:=zRm E t q u r S1 S2 hw (by rw [Tr.fl_len] at hL;omega) (by omega) hT hc he hn h1 h2 hr
    by_cases h0 : S2.er = 0
    · rw [if_pos h0] at this ⊢;rw [h0];exact this
    · rw [if_neg h0] at this ⊢;exact this
theorem zTs {E : List Sg} (h : envF E = true) : ∀ s ∈ E,okT s.ty = true:=fun s hs=>((zKf.1 h).1 s hs).2.1
structure Ran (E : List Sg) (t : Tr) (r : List Nd) (S : TS) : Prop where
  si : SI S
  gd : Gd (Vn S.nx) r
  nx : S.nx ≤ 4002 * t.sz
theorem zP0 {E : List Sg} {t : Tr} (hw : t.wf) (hc : chkT t false = 0) (hz : t.sz ≤ 100) (he : envF E = true) (hn : nmdF E t.fl (zDa t) = true) :
    ∃ u r S1 S2,(Ev fun q=>t.expS q E [] TS0 = some (u,S1) ∧ zCI q S1 u = some (r,S2)) ∧ Ran E t r S2 ∧ (S2.er = 0 → S2 = S1):=by
  obtain ⟨h1,h2⟩:=(zE8 hc).1 hn
  have hE:=Env2.self (zTs he)
  have htw : Tw 0 TS0 TS0:=Tw.self SI.zero
  obtain ⟨u,A1,B1,e1,r1,r2,r3,r4,r5⟩:=zH2 hE t.sz t (Nat.le_refl _) hw (zJh hc).2.2.1 hz h1 (N:=[]) htw (fun l hl=>absurd hl List.not_mem_nil) (fun z hz=>.inr (h2 z hz)) (by show (0 : Int) + 4002 * (t.sz : Int) + 0 ≤ 1048577;omega)
  have r4' : B1.nx ≤ 0 + 4002 * (t.sz : Int):=r4
  obtain ⟨r,A2,B2,e2,s1,s2,s3,s4⟩:=zF1 r1 (by omega) r2
  exact ⟨u,r,B1,B2,e1.both e2 fun q ⟨p1,_⟩ ⟨p2,_⟩=>⟨p1,p2⟩,⟨s1.sb,by rw [s2];exact s3,by omega⟩,fun h0=>(s4 h0).1⟩
theorem IR.total (E : List Sg) (L : List Nd) (hL : L.length ≤ 100) : ∃ r e,IR E L r e:=by
  cases hw : zCH L with
  | false=>exact ⟨_,_,.no L hw⟩
  | true =>
    obtain ⟨t,rfl,hwf⟩:=zD8.1 hw
    rw [Tr.fl_len] at hL
    by_cases hc : chkT t false = 0
    · cases he : envF E with
      | false=>exact ⟨_,_,.env t hwf hc he⟩
      | true =>
        cases hn : nmdF E t.fl (zDa t) with
        | false=>exact ⟨_,_,.name t hwf hc he hn⟩
        | true =>
          obtain ⟨u,r,S1,S2,e1,h1,_⟩:=zP0 hwf hc hL he hn
          obtain ⟨q,p1,p2⟩:=e1.get
          exact ⟨_,_,.run t q u r S1 S2 hwf hc he hn p1 p2 fun _=>h1.gd.ok⟩
    · exact ⟨_,_,.chk t hwf hc⟩
end Go.Proofs.YtblomnkamngnbaaGreatDoor
namespace Go.Proofs.YtblomnkamngnbaaGreatDoor
def letN (x : List UInt8) : Nd:=⟨7,x,0,2⟩
def letT (x : List UInt8) (a b : Tr) : Tr:=.mk (letN x) [a,b]
theorem zVQ (x : List UInt8) (a b : Tr) : (letT x a b).fl = letN x :: (a.fl ++ b.fl):=by rw [letT,Tr.fl,flL,flL,flL,List.append_nil]
theorem zTe {x : List UInt8} {a b : Tr} (ha : a.wf) (hb : b.wf) : (letT x a b).wf:=by
  rw [letT,Tr.wf,wfL,wfL,wfL];exact ⟨rfl,ha,hb,trivial⟩
theorem zTf (x : List UInt8) (a b : Tr) : (letT x a b).sz = a.sz + b.sz + 1:=by rw [letT,Tr.sz,szL,szL,szL];omega
theorem zMx : ∀ (m : Nat) (t : Tr),t.sz ≤ m → t.wf → 0 ≤ zEN t.fl ∧ zEN t.fl ≤ t.sz
  | 0,t,h,_=>by have:=zBO t;omega
  | m + 1,.mk x ks,h,hw=>by
    rw [Tr.sz] at h
    have hwf:=hw
    rw [Tr.wf] at hwf
    have hk:=zCK.1 hwf.2
    have h1:=zQ7 (T:=(Tr.mk x ks).fl) (x:=x) (KK:=ks.map Tr.fl) (by rw [Tr.fl,zEV]) (by rw [List.length_map];exact hwf.1) (fun K hK=>by
      obtain ⟨k,hk1,rfl⟩:=List.mem_map.1 hK
      exact zNK (hk k hk1))
    rw [h1.1,Tr.sz]
    have key : ∀ (ks : List Tr) (c : Int),0 ≤ c → c ≤ m → szL ks ≤ m → (∀ k ∈ ks,k.wf) → 0 ≤ (ks.map Tr.fl).foldl (fun m K=>max m (zEN K)) c ∧ (ks.map Tr.fl).foldl (fun m K=>max m (zEN K)) c ≤ max c (szL ks):=by
      intro ks
      induction ks with
      | nil=>intro c h0 _ _ _;simp only [List.map_nil,List.foldl_nil,szL];omega
      | cons k ks ih =>
        intro c h0 hc hs hk
        rw [szL] at hs
        have hd:=zMx m k (by omega) (hk k List.mem_cons_self)
        have:=ih (max c (zEN k.fl)) (by omega) (by omega) (by omega) fun j hj=>hk j (List.mem_cons_of_mem _ hj)
        simp only [List.map_cons,List.foldl_cons,szL];omega
    have:=key ks 0 (by omega) (by omega) (by omega) hk
    unfold mxF;omega
theorem zSd {x : List UInt8} (hx : zD1 x = true) (k : Int) : zE7 (letN x) k false = 0:=by
  unfold zE7 letN
  simp [okK,patK,cntK,numK,namK,hx]
theorem zUP {x : List UInt8} {a b : Tr} (hx : zD1 x = true) (ha : a.wf) (hb : b.wf) (hca : chkT a false = 0) (hz : a.sz + b.sz ≤ 50) : chkT (letT x a b) false = chkT b false:=by
  have h1:=zMx _ _ (Nat.le_refl _) (zTe (x:=x) ha hb)
  have h2:=zMx _ _ (Nat.le_refl _) hb
  have h3:=zTf x a b
  obtain ⟨_,_,h4,h5⟩:=zJh hca
  have hw : (letT x a b).werr false = b.werr false:=by
    rw [letT,Tr.werr,if_neg (by rw [zSd hx];decide)]
    rw [zC6,zC6,zC6]
    simp only [show decide ((letN x).kind = 10) = false from rfl,Bool.false_and,Bool.or_false]
    rw [if_neg (by rw [h4];decide)]
    by_cases h9 : b.werr false = 0
    · rw [if_neg (by rw [h9];decide),h9]
    · rw [if_pos h9]
  have ht : (letT x a b).tw = b.tw:=by
    rw [letT,Tr.tw,if_neg (by rw [show patK (letN x).kind = false from rfl];decide),twL,twL,twL,h5,Bool.or_false,Bool.false_or]
  have n1 : ¬ (4000 < (letT x a b).sz ∨ 100 < zEN (letT x a b).fl):=by omega
  have n2 : ¬ (4000 < b.sz ∨ 100 < zEN b.fl):=by omega
  unfold chkT
  rw [hw,ht,if_neg n1,if_neg n2]
theorem zQM {x z : List UInt8} {a b : Tr} : (letT x a b).fr z ↔ a.fr z ∨ (b.fr z ∧ z ≠ x):=by
  rw [letT,Tr.fr,if_neg (show ¬ (letN x).kind = 3 from fun c=>absurd c (show ¬ (7 : Int) = 3 by decide))]
  simp only [frL,bndK,letN]
  simp
theorem zQN {q : Nat} {E : List Sg} {x : List UInt8} {a b : Tr} {u r : List Nd} {S1 S2 : TS} (hv : a.val = true) (h1 : a.expS q E [] TS0 = some (u,S1)) (h2 : zCI q S1 u = some (r,S2)) : (letT x a b).expS q E [] TS0 = b.expS q E [⟨x,r,zBb r⟩] S2:=by
  rw [letT,Tr.expS,if_neg (by decide),if_neg (by show ¬ (7 : Int) = 1;decide),if_neg (by show ¬ (7 : Int) = 2;decide),if_neg (by show ¬ ((7 : Int) = 3 ∨ (7 : Int) = 4);decide),expK,if_neg (by show ¬ (7 : Int) = 5;decide),if_neg (by show ¬ (7 : Int) = 8;decide),h1]
  simp only
  rw [if_pos (show (letN x).kind = 7 from rfl),if_pos hv,anyS,h2]
  simp only [zB3]
  rw [exp1]
  have : (zBb r).filter (fun v=>!([] : List Int).contains v) = zBb r:=List.filter_eq_self.2 fun v _=>by simp
  rw [this];rfl
def zGD (x : List UInt8) (t : List Nd) (E : List Sg) : List Sg:=⟨x,t⟩ :: E.filter fun s=>!decide (s.name = x)
theorem zFR {x z : List UInt8} {t : List Nd} {E : List Sg} : zDV (zGD x t E) z = if x = z then some ⟨x,t⟩ else zDV E z:=by
  unfold zDV zGD
  rw [List.find?_cons]
  by_cases h : x = z
  · subst h;simp
  · rw [if_neg h]
    simp only [h,decide_false]
    rw [List.find?_filter]
    congr 1
    funext s
    by_cases h2 : s.name = z
    · have : ¬ s.name = x:=fun c=>h (c.symm.trans h2)
      simp [h2]
      exact fun c=>h c.symm
    · simp [h2]
theorem zR4 {x : List UInt8} {t : List Nd} {E : List Sg} (hx : zD1 x = true) (ht : okT t = true) (hE : envF E = true) : envF (zGD x t E) = true:=by
  obtain ⟨h1,h2⟩:=zKf.1 hE
  refine zKf.2 ⟨fun s hs=>?_,?_⟩
  · rcases List.mem_cons.1 hs with rfl | hs
    · exact ⟨.inl hx,ht,fun c=>by rw [zKC hx] at c;cases c⟩
    · exact h1 s ((List.mem_filter.1 hs).1)
  · refine List.pairwise_cons.2 ⟨fun s hs=>?_,h2.filter _⟩
    have:=(List.mem_filter.1 hs).2
    have hne : ¬ s.name = x:=by simpa using this
    exact fun e=>hne e.symm
theorem zPg {x : List UInt8} {r : List Nd} {E : List Sg} (hx : zD1 x = true) (hr : okT r = true) (hE : envF E = true) : Env2 E [⟨x,r,zBb r⟩] (zGD x (zB2 r) E) where
  ok:=fun s hs=>by
    rcases List.mem_cons.1 hs with rfl | hs
    · exact (zEy hr).1
    · exact zTs hE s ((List.mem_filter.1 hs).1)
  con:=fun c hc=>by
    rw [zFR,if_neg (fun e=>by subst e;rw [zKC hx] at hc;cases hc)]
  shut:=fun l hl=>by
    rw [List.mem_singleton] at hl;subst hl
    exact ⟨hr,fun y hy=>zE2 hr hy⟩
  low:=fun z s hs=>by
    rw [zFR] at hs
    by_cases h : x = z
    · subst h
      rw [if_pos rfl] at hs;injection hs with hs;subst hs
      exact .inr ⟨⟨x,r,zBb r⟩,by simp [zIE],rfl,rfl⟩
    · rw [if_neg h] at hs
      exact .inl ⟨by simp [zIE,h],hs⟩
theorem zSG {n k : Int} {t : List Nd} (h : Gd (Vn n) t) (h0 : 0 ≤ k) (hk : n + k ≤ 1048577) : zB2 (sh k t) = zB2 t:=by
  have h1:=h.ok
  have h2:=(h.sh h0 hk).ok
  have hv : zBu (sh k t) = (zBu t).map (· + k):=zK0 fun x y _ _ e=>by omega
  have e1 : zB2 (sh k t) = (sh k t).map (ren (idxF (zBu (sh k t)))):=by rw [zB2,if_pos h2];rfl
  have e2 : zB2 t = t.map (ren (idxF (zBu t))):=by rw [zB2,if_pos h1];rfl
  rw [e1,e2,hv]
  unfold sh
  rw [zHN]
  exact zFW fun x _=>zKJ (f:=(· + k)) (fun x y e=>by simpa using e) _ x
theorem IR.len {E : List Sg} {L r : List Nd} {e : Int} (h : IR E L r e) (h0 : e = 0) : r.length ≤ 4000:=by
  cases h with
  | no _ hw=>cases h0
  | chk t hw hc=>exact absurd h0 hc
  | env t hw hc he=>cases h0
  | name t hw hc he hn=>cases h0
  | run t q u r S1 S2 hw hc he hn h1 h2 hr =>
    rw [if_pos h0,(zEy (hr h0)).2.2.2];exact (zDJ (hr h0)).1
theorem IR.len2 {E : List Sg} {L r : List Nd} {e : Int} (h : IR E L r e) : r.length ≤ 2000000:=by
  cases h with
  | no _ hw=>simp
  | chk t hw hc=>simp
  | env t hw hc he=>simp
  | name t hw hc he hn=>simp
  | run t q u r S1 S2 hw hc he hn h1 h2 hr =>
    by_cases h0 : S2.er = 0
    · rw [if_pos h0,(zEy (hr h0)).2.2.2];have:=(zDJ (hr h0)).1;omega
    · rw [if_neg h0];simp
theorem zR2 : ∀ {t : Tr} {pat : Bool},t.werr pat = 0 → ∀ n ∈ t.fl,(n.kind = 4 ∨ n.kind = 24) → conF n.text = true:=by
  have key : ∀ (m : Nat) (t : Tr),t.sz ≤ m → ∀ pat,t.werr pat = 0 → ∀ n ∈ t.fl,(n.kind = 4 ∨ n.kind = 24) → conF n.text = true:=by
    intro m
    induction m with
    | zero=>intro t h;have:=zBO t;omega
    | succ m ih =>
      intro t h pat hw n hn hk
      obtain ⟨x,ks⟩:=t
      rw [Tr.sz] at h
      have h1:=zDC hw
      rw [Tr.fl] at hn
      rcases List.mem_cons.1 hn with rfl | hn
      · exact zOC h1.1 hk
      · rw [zEV] at hn
        obtain ⟨l,hl,hn⟩:=List.mem_flatten.1 hn
        obtain ⟨k,hk1,rfl⟩:=List.mem_map.1 hl
        obtain ⟨j,hj⟩:=List.mem_iff_getElem?.1 hk1
        exact ih k (by have:=zCw hk1;omega) _ (zBB (j:=j) h1.2 hj) n hn hk
  exact fun {t pat} h=>key _ t (Nat.le_refl _) pat h
theorem zOs {E : List Sg} {a : Tr} {b : List Nd} {x : List UInt8} (ha : a.wf) (hv : zIC a = true) (hx : zD1 x = true) (hz : a.fl.length + b.length ≤ 50) :
    ∃ t e u f,IR E a.fl t e ∧ IR E (letN x :: (a.fl ++ b)) u f ∧ (e ≠ 0 → f ≠ 0) ∧ (e = 0 → t.length ≤ 4000 ∧ ∃ w g,IR (zGD x t E) b w g ∧ f = g ∧ u = w ∧ (g ≠ 0 → u = [])):=by
  rw [zIC,Bool.and_eq_true,decide_eq_true_eq] at hv
  obtain ⟨hca,hval⟩:=hv
  rw [Tr.fl_len] at hz
  cases hwb : zCH b with
  | false =>
    have hwl : zCH (letN x :: (a.fl ++ b)) = false:=by
      refine Bool.eq_false_iff.2 fun c=>?_
      rw [zDj,zCa,if_neg (show ¬ (letN x).kids < 0 from fun c=>absurd c (show ¬ (2 : Int) < 0 by decide)),show 0 + (letN x).kids.toNat = 1 + 1 from rfl,zFl,zCN _ (Tr.wf_cns ha),Option.bind_some,List.drop_left] at c
      cases hc : cns b 1 with
      | none=>rw [hc] at c;cases c
      | some j =>
        rw [hc] at c
        simp only [Option.map_some,List.length_cons,List.length_append,Option.some.injEq] at c
        have : zCH b = true:=(zDj b).2 (by rw [hc];congr 1;omega)
        rw [hwb] at this;cases this
    obtain ⟨t,e,h⟩:=IR.total E a.fl (by rw [Tr.fl_len];omega)
    refine ⟨t,e,[],60,h,.no _ hwl,fun _=>by decide,fun h0=>⟨h.len h0,[],60,.no _ hwb,rfl,rfl,fun _=>rfl⟩⟩
  | true =>
    obtain ⟨b,rfl,hb⟩:=zD8.1 hwb
    rw [Tr.fl_len] at hz
    have hpb:=zBO b
    have hwl:=zTe (x:=x) ha hb
    have hcl:=zUP hx ha hb hca hz
    have hfl:=zVQ x a b
    have hlz:=zTf x a b
    rw [← hfl]
    by_cases hcb : chkT b false = 0
    case neg =>
      obtain ⟨t,e,h⟩:=IR.total E a.fl (by rw [Tr.fl_len];omega)
      refine ⟨t,e,[],chkT b false,h,by have:=IR.chk (E:=E) (letT x a b) hwl (by rw [hcl];exact hcb);rwa [hcl] at this,fun _=>hcb,fun h0=>⟨h.len h0,[],_,.chk b hb hcb,rfl,rfl,fun _=>rfl⟩⟩
    rw [hcb] at hcl
    cases he : envF E with
    | false=>exact ⟨[],110,[],110,.env a ha hca he,.env _ hwl hcl he,fun _=>by decide,fun h=>by cases h⟩
    | true =>
    cases hna : nmdF E a.fl (zDa a) with
    | false =>
      refine ⟨[],111,[],111,.name a ha hca he hna,.name _ hwl hcl he ?_,fun _=>by decide,fun h=>by cases h⟩
      refine Bool.eq_false_iff.2 fun c=>?_
      obtain ⟨h1,h2⟩:=(zE8 hcl).1 c
      have : nmdF E a.fl (zDa a) = true:=(zE8 hca).2 ⟨fun n hn=>h1 n (by rw [hfl];exact List.mem_cons_of_mem _ (List.mem_append_left _ hn)),fun z hz=>h2 z (zQM.2 (.inl hz))⟩
      rw [hna] at this;cases this
    | true =>
    obtain ⟨u,r,S1,S2,e1,hR,hS⟩:=zP0 ha hca (by omega) he hna
    obtain ⟨ha1,ha2⟩:=(zE8 hca).1 hna
    by_cases h0 : S2.er = 0
    case neg =>
      obtain ⟨q,p1,p2⟩:=e1.get
      have hIa:=IR.run (E:=E) a q u r S1 S2 ha hca he hna p1 p2 fun _=>hR.gd.ok
      rw [if_neg h0] at hIa
      cases hnl : nmdF E (letT x a b).fl (zDa (letT x a b)) with
      | false=>exact ⟨[],_,[],111,hIa,.name _ hwl hcl he hnl,fun _=>by decide,fun h=>absurd h h0⟩
      | true =>
        have hrun:=zQN (b:=b) (x:=x) hval p1 p2
        rw [zIr _ h0] at hrun
        have hkn : zCI q S2 (zBC intT) = some (zBC intT,S2):=by rw [zCI,if_pos h0]
        have hIl:=IR.run (E:=E) (letT x a b) q _ _ _ _ hwl hcl he hnl hrun hkn fun c=>absurd c h0
        rw [if_neg h0] at hIl
        exact ⟨[],_,[],_,hIa,hIl,fun _=>h0,fun h=>absurd h h0⟩
    have hS1:=hS h0
    have hr:=hR.gd.ok
    have hen:=zR4 hx (zEy hr).1 he
    have hE2:=zPg hx hr he
    have hlen : (zB2 r).length ≤ 4000:=by rw [(zEy hr).2.2.2];exact hR.gd.len
    have hnm : nmdF E (letT x a b).fl (zDa (letT x a b)) = true ↔ nmdF (zGD x (zB2 r) E) b.fl (zDa b) = true:=by
      rw [zE8 hcl,zE8 hcb]
      have hcx : ∀ n ∈ b.fl,(n.kind = 4 ∨ n.kind = 24) → zDV (zGD x (zB2 r) E) n.text = zDV E n.text:=fun n hn hk=>by
        have hcn : conF n.text = true:=zR2 (zJh hcb).2.2.1 n hn hk
        rw [zFR,if_neg (fun e=>by subst e;rw [zKC hx] at hcn;cases hcn)]
      constructor
      · rintro ⟨h1,h2⟩
        refine ⟨fun n hn=>?_,fun z hz=>?_⟩
        · obtain ⟨h3,h4⟩:=h1 n (by rw [hfl];exact List.mem_cons_of_mem _ (List.mem_append_right _ hn))
          exact ⟨fun hk=>by rw [hcx n hn (.inl hk)];exact h3 hk,fun hk=>by rw [hcx n hn (.inr hk)];exact h4 hk⟩
        · rw [zFR]
          by_cases hxz : x = z
          · rw [if_pos hxz];rfl
          · rw [if_neg hxz];exact h2 z (zQM.2 (.inr ⟨hz,fun c=>hxz c.symm⟩))
      · rintro ⟨h1,h2⟩
        refine ⟨fun n hn=>?_,fun z hz=>?_⟩
        · rw [hfl] at hn
          rcases List.mem_cons.1 hn with rfl | hn
          · exact ⟨fun hk=>(by cases hk),fun hk=>(by cases hk)⟩
          rcases List.mem_append.1 hn with hn | hn
          · exact ha1 n hn
          · obtain ⟨h3,h4⟩:=h1 n hn
            exact ⟨fun hk=>by rw [← hcx n hn (.inl hk)];exact h3 hk,fun hk=>by rw [← hcx n hn (.inr hk)];exact h4 hk⟩
        · rcases zQM.1 hz with hz | ⟨hz,hne⟩
          · exact ha2 z hz
          · have:=h2 z hz
            rw [zFR,if_neg (fun c=>hne c.symm)] at this;exact this
    cases hnl : nmdF E (letT x a b).fl (zDa (letT x a b)) with
    | false =>
      have hnb : nmdF (zGD x (zB2 r) E) b.fl (zDa b) = false:=Bool.eq_false_iff.2 fun c=>by rw [hnm.2 c] at hnl;cases hnl
      obtain ⟨q,p1,p2⟩:=e1.get
      have hIa:=IR.run (E:=E) a q u r S1 S2 ha hca he hna p1 p2 fun _=>hr
      rw [if_pos h0] at hIa
      exact ⟨_,_,[],111,hIa,.name _ hwl hcl he hnl,fun h=>absurd h0 h,fun _=>⟨hlen,[],111,.name b hb hcb hen hnb,rfl,rfl,fun _=>rfl⟩⟩
    | true =>
      have hnb:=hnm.1 hnl
      obtain ⟨hb1,hb2⟩:=(zE8 hcb).1 hnb
      have hnx:=hR.nx
      have hst : SSim S2.nx S2.st []:=fun j hj=>by
        obtain ⟨ρ,hI⟩:=hR.si.inv h0
        show zAv S2.st (j + S2.nx) = none
        cases hl : zAv S2.st (j + S2.nx) with
        | none=>rfl
        | some t =>
          have:=(hI.ky _ (zFc hl)).1
          rw [zHC] at this;omega
      have htw : Tw S2.nx S2 TS0:=⟨hR.si.nx,by show S2.nx = 0 + S2.nx;omega,h0,fun _=>hst,hR.si,SI.zero⟩
      obtain ⟨v,A1,B1,e2,r1,r2,r3,r4,r5⟩:=zH2 hE2 b.sz b (Nat.le_refl _) hb (zJh hcb).2.2.1 (by omega) hb1 (N:=[]) htw (fun l hl=>absurd hl List.not_mem_nil) (fun z hz=>.inr (hb2 z hz)) (by show (0 : Int) + 4002 * (b.sz : Int) + S2.nx ≤ 1048577;omega)
      have r4' : B1.nx ≤ 0 + 4002 * (b.sz : Int):=r4
      obtain ⟨w,A2,B2,e3,s1,s2,s3,s4⟩:=zF1 r1 (by omega) r2
      obtain ⟨q,⟨p1,p2⟩,⟨p3,p4⟩,p5,p6⟩:=((e1.and (e2.and e3)).get)
      have hIa:=IR.run (E:=E) a q u r S1 S2 ha hca he hna p1 p2 fun _=>hr
      rw [if_pos h0] at hIa
      have hrun:=zQN (b:=b) (x:=x) hval p1 p2
      rw [show ([⟨x,r,zBb r⟩] : List Lc) = [⟨x,r,zBb r⟩] ++ ([] : List Lc).map (shL S2.nx) from rfl,p4] at hrun
      have hok:=s3.ok
      have hok2:=(s3.sh s1.k0 (by omega)).ok
      have hIl:=IR.run (E:=E) (letT x a b) q _ _ _ _ hwl hcl he hnl hrun p6 fun _=>hok2
      have hIb:=IR.run (E:=zGD x (zB2 r) E) b q _ _ _ _ hb hcb hen hnb p3 p5 fun _=>hok
      rw [zSG s3 s1.k0 (by omega),s1.er] at hIl
      exact ⟨_,_,_,_,hIa,hIl,fun h=>absurd h0 h,fun _=>⟨hlen,_,_,hIb,rfl,rfl,fun h=>by rw [if_neg h]⟩⟩
end Go.Proofs.YtblomnkamngnbaaGreatDoor
