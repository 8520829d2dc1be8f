/- Texts of this claim, merged: InfYB, InfXF, InfXG. -/
import Derived.Test.YtblomnkamngnbaaGreatDoorMAG
import Derived.Test.YtblomnkamngnbaaGreatDoorMAO
import Derived.Test.YtblomnkamngnbaaGreatDoorMBD
import Derived.Test.YtblomnkamngnbaaGreatDoorMBG
import Derived.Test.YtblomnkamngnbaaGreatDoorMBL
namespace Go.Proofs.YtblomnkamngnbaaGreatDoor
open Go.Sx
theorem zPG {St : Stab} {w : World} : RepD St w (.slice none 0 0) (.slice []) :=
  .slice none 0 0 0 [] [] rfl (Nat.le_refl _) (Nat.zero_le _) (fun x hx=>by cases hx) rfl (fun u hu=>by cases hu) (fun h=>absurd h (by simp)) (fun j u d hu=>by simp at hu)
theorem zOC {P : Program} {f : FuncId} {a b : SV} {pre post : List Ob} {r : SV} (h : zA2 P f [a,b,.d (.slice [])] pre r post) : zA2 P f [a,b,.nil] pre r post:=by
  intro g w vs hi hr
  refine h g w vs hi ?_
  match vs,hr with
  | [u,v,x],⟨h1,h2,h3,h4⟩ =>
    have h3 : x = .slice none 0 0:=h3
    subst h3
    exact ⟨h1,h2,zPG,h4⟩
attribute [local irreducible] zAT Program.underlying Ylds zBA alex zBe zBP awp zAj zBZ zBk zA2 zBH zBR zA8 zBV zBb zBf zBu zBO VCall
theorem zPh (L : List Nd) (hL : L.length ≤ 1000000) (hw : zCA L = false) : zAj Tryz.prog 12 [zAc L] (bl false):=by
  have hc:=zKj L hL hw
  refine zAd Tryz.func12 rfl Tryz.ntmps12 Tryz.results12 rfl ?_
  intro wb St0
  repeat' first | apply en_n|apply zAH|apply zAB|apply zAF|apply w0|(apply k1u (hd:=rfl);exact rfl;exact rfl)|(apply zA9;exact rfl;exact rfl;first|assumption|omega)|(refine zAV zCs hc (zAX rfl zAG))|apply ay (hd:=rfl)|exact zAE rfl|exact zAC rfl|exact zAh rfl rfl|apply zAM|apply zAJ|(apply res1;exact rfl)
  all_goals rfl
def zMl (t : Tr) : Bool:=decide (chkT t false = 0) && t.val
theorem zQJ {t : Tr} (h : chkT t false = 0) : t.sz ≤ 4000 ∧ zDu t.fl ≤ 100 ∧ t.werr false = 0 ∧ t.tw = false:=by
  unfold chkT at h
  split at h
  · cases h
  · rename_i h1
    split at h
    · rename_i h2;exact absurd h h2
    · rename_i h2
      split at h
      · cases h
      · rename_i h3;exact ⟨by omega,by omega,by omega,by simpa using h3⟩
theorem zIP (t : Tr) (hw : t.wf) (hL : t.fl.length ≤ 1000000) : zAj Tryz.prog 12 [zAc t.fl] (bl (zMl t)):=by
  have hc:=zEY t hw hL
  unfold zMl
  refine zAd Tryz.func12 rfl Tryz.ntmps12 Tryz.results12 rfl ?_
  intro wb St0
  by_cases h0 : chkT t false = 0
  · have hv:=zHd t.fl (by omega) t.sz 0 t (Nat.le_refl _) (.top hw) (zQJ h0).2.2.1
    rw [h0] at hc
    rw [decide_eq_true h0,Bool.true_and]
    generalize t.val = v at *
    clear h0
    skip
    repeat' first | apply en_n|apply zAH|apply zAB|apply zAF|apply w0|(apply zBD;exact rfl;exact rfl;first|assumption|omega)|(refine zAV zCs hc (zAX rfl zAG))|(refine zAV zFN hv (zAX rfl (zAX rfl zAG)))|apply ay (hd:=rfl)|exact zAE rfl|exact zAC rfl|exact zAi rfl rfl|(apply w1;exact rfl;exact rfl)|apply zAM|apply zAJ|(apply res1;exact rfl)
    all_goals rfl
  · rw [decide_eq_false h0,Bool.false_and]
    generalize chkT t false = e at *
    skip
    repeat' first | apply en_n|apply zAH|apply zAB|apply zAF|apply w0|(apply k1u (hd:=rfl);exact rfl;exact rfl)|(apply zA9;exact rfl;exact rfl;first|assumption|omega)|(refine zAV zCs hc (zAX rfl zAG))|apply ay (hd:=rfl)|exact zAE rfl|exact zAC rfl|exact zAh rfl rfl|apply zAM|apply zAJ|(apply res1;exact rfl)
    all_goals rfl
theorem zSJ (E : List Sg) (L : List Nd) (hL : L.length ≤ 1000000) (hw : zCA L = false) : zAj Tryz.prog 15 [sigs E,zAc L] (.tup [.slice [],i64 60]):=by
  have hc:=zKj L hL hw
  refine zAd Tryz.func15 rfl Tryz.ntmps15 Tryz.results15 rfl ?_
  intro wb St0
  repeat' first | apply en_n|apply zAH|apply zAB|apply zAF|apply w0|(apply zB7;exact rfl;exact rfl;first|assumption|omega)|(refine zAV zCs hc (zAX rfl zAG))|apply ay (hd:=rfl)|exact zAE rfl|exact zAC rfl|exact zAb rfl|(apply zAK;exact rfl)|apply zAM|apply en_r|apply zAJ|(apply zL7;exact rfl;exact rfl)
  all_goals rfl
theorem zQt (E : List Sg) (t : Tr) (hw : t.wf) (hL : t.fl.length ≤ 1000000) (h : chkT t false ≠ 0) : zAj Tryz.prog 15 [sigs E,zAc t.fl] (.tup [.slice [],i64 (chkT t false)]):=by
  have hc:=zEY t hw hL
  refine zAd Tryz.func15 rfl Tryz.ntmps15 Tryz.results15 rfl ?_
  intro wb St0
  generalize chkT t false = e at *
  repeat' first | apply en_n|apply zAH|apply zAB|apply zAF|apply w0|(apply zB7;exact rfl;exact rfl;first|assumption|omega)|(refine zAV zCs hc (zAX rfl zAG))|apply ay (hd:=rfl)|exact zAE rfl|exact zAC rfl|exact zAb rfl|(apply zAK;exact rfl)|apply zAM|apply en_r|apply zAJ|(apply zL7;exact rfl;exact rfl)
  all_goals rfl
theorem zQs (E : List Sg) (t : Tr) (hw : t.wf) (hL : t.fl.length ≤ 1000000) (hE : E.length ≤ 1000000) (hT : ∀ s ∈ E,s.ty.length ≤ 1000000) (h : chkT t false = 0) (he : envF E = false) : zAj Tryz.prog 15 [sigs E,zAc t.fl] (.tup [.slice [],i64 110]):=by
  have hc:=zEY t hw hL
  rw [h] at hc
  have hk:=zFK E hE hT
  rw [he,if_neg (by decide)] at hk
  refine zAd Tryz.func15 rfl Tryz.ntmps15 Tryz.results15 rfl ?_
  intro wb St0
  clear he h
  repeat' first | apply en_n|apply zAH|apply zAB|apply zAF|apply w0|(apply zB7;exact rfl;exact rfl;first|assumption|omega)|(apply zBU;exact rfl;exact rfl;first|assumption|omega)|(refine zAV zCs hc (zAX rfl zAG))|(refine zAV zEB hk (zAX rfl zAG))|apply ay (hd:=rfl)|exact zAE rfl|exact zAC rfl|exact zAb rfl|(apply zAK;exact rfl)|(apply zAQ;exact rfl)|apply zAP|apply zAM|apply en_r|apply zAJ|(apply zL7;exact rfl;exact rfl)
  all_goals rfl
theorem zLO (t : Tr) : (zF6 t).length ≤ t.sz:=by
  unfold zF6
  split
  · have:=zEy t [] [];simpa using this
  · simp
theorem zOi (E : List Sg) (t : Tr) (hw : t.wf) (hL : t.fl.length ≤ 1000000) (hE : E.length ≤ 1000000) (hT : ∀ s ∈ E,s.ty.length ≤ 1000000) (h : chkT t false = 0) (he : envF E = true) (hn : nmdF E t.fl (zF6 t) = false) : zAj Tryz.prog 15 [sigs E,zAc t.fl] (.tup [.slice [],i64 111]):=by
  have hc:=zEY t hw hL
  rw [h] at hc
  have hk:=zFK E hE hT
  rw [he,if_pos rfl] at hk
  have hfl:=zLO t
  have hm:=zK5 E t.fl (zF6 t) hE hT hL (by rw [Tr.fl_len] at hL;omega) (zQx t hw hL)
  rw [hn] at hm
  refine zAd Tryz.func15 rfl Tryz.ntmps15 Tryz.results15 rfl ?_
  intro wb St0
  clear he h hn hfl
  repeat' first | apply en_n|apply zAH|apply zAB|apply zAF|apply w0|(apply zBU;exact rfl;exact rfl;first|assumption|omega)|(refine zAV zCs hc (zAX rfl zAG))|(refine zAV zEB hk (zAX rfl zAG))|(refine zAV zJ9 hm (zAX rfl (zAX rfl zAG)))|apply ay (hd:=rfl)|exact zAE rfl|exact zAC rfl|exact zBr rfl|exact zAb rfl|(apply zAK;exact rfl)|(apply zAQ;exact rfl)|apply zAP|apply zAM|apply en_r|apply zAJ|(apply zL7;exact rfl;exact rfl)
  all_goals rfl
abbrev TS0 : TS:=⟨0,[],0⟩
set_option maxHeartbeats 4000000 in
theorem zQr (E : List Sg) (t : Tr) (q : Nat) (u r : List Nd) (S1 S2 : TS) (hw : t.wf) (hz : t.sz ≤ 4000) (hE : E.length ≤ 1000000) (hT : ∀ s ∈ E,s.ty.length ≤ 10000) (h : chkT t false = 0) (he : envF E = true) (hn : nmdF E t.fl (zF6 t) = true)
    (h1 : t.expS q E [] TS0 = some (u,S1)) (h2 : zEd q S1 u = some (r,S2)) (_hr : S2.er = 0 → okT r = true) : zAj Tryz.prog 15 [sigs E,zAc t.fl] (if S2.er = 0 then .tup [zAc (zCm r),i64 0] else .tup [.slice [],i64 S2.er]):=by
  have hL : t.fl.length ≤ 1000000:=by rw [Tr.fl_len];omega
  have hc:=zEY t hw hL
  have hw0:=(zQJ h).2.2.1
  rw [h] at hc
  have hk:=zFK E hE (fun s hs=>by have:=hT s hs;omega)
  rw [he,if_pos rfl] at hk
  have hfl:=zLO t
  have hm:=zK5 E t.fl (zF6 t) hE (fun s hs=>by have:=hT s hs;omega) hL (by omega) (zQx t hw hL)
  rw [hn] at hm
  have hA : Ask E [] TS0 t.sz:=⟨hE,hT,by simp;omega,fun l hl=>(by cases hl),fun p hp=>(by cases hp),by show (0 : Int) ≤ 0 ∧ (0 : Int) + 5000 * (t.sz : Int) ≤ 2000000000000;omega⟩
  have hx:=zSd (E:=E) (q:=q) (L:=t.fl) (by omega) t.sz 0 t [] TS0 S1 u (Nat.le_refl _) (.top hw) hw0 (by omega) hA h1
  obtain ⟨b1,b2⟩:=zBj hT t.sz t (Nat.le_refl _) hw hw0 (by omega) (fun l hl=>(by cases hl)) h1
  have hx:=zOC hx
  have hkn:=zJz t.fl E S1 S2 q u r (by omega) (b1.st fun p hp=>by cases hp) h2
  have hrl:=zFg h2 (by omega)
  have hcn:=zSL r (by omega)
  clear he h hn hfl hw0 hA b1 b2 h1 h2 _hr
  by_cases h0 : S2.er = 0
  · rw [if_pos h0]
    refine zAd Tryz.func15 rfl Tryz.ntmps15 Tryz.results15 rfl ?_
    intro wb St0
    repeat' first | (refine zBv (id:=10) (s:=[(0,.d (sigs E)),(1,.d (zAc t.fl)),(4,.nil),(5,.d (i64 0)),(8,.ptr 2 0)]) (h:=[.map none (mSto []),.bx none none [.d (i64 0),.mp 0],.bx none none [.ptr 1 0,.d (zAc t.fl),.d (sigs E),.d (i64 0)]]) (zAO (zAA rfl (zAA rfl (zAA rfl (zAA rfl (zAA rfl zAa))))) (zAD rfl rfl (zAD rfl rfl (zGq rfl zEQ zAN))) rfl rfl) ?_)|(apply zGl;(with_reducible exact zM2);(with_reducible exact zMd);exact zEV rfl (zEV rfl (zEV rfl zNk));exact rfl;exact rfl;exact rfl;exact rfl)|apply en_n|apply zAH|apply zAB|apply zAF|apply w0|(apply zBU;exact rfl;exact rfl;first|assumption|omega)|(refine zAV zCs hc (zAX rfl zAG))|(refine zAV zEB hk (zAX rfl zAG))|(refine zAV zJ9 hm (zAX rfl (zAX rfl zAG)))|(refine zSl [] zIY (zIq 0) ?_ rfl rfl (by decide) rfl rfl rfl rfl rfl rfl ?_;(repeat (refine zAL rfl ?_));exact zAS)|exact zAo rfl|(refine zA3 [2,1,0] zDJ (hx) ?_ rfl rfl (by decide) rfl rfl rfl rfl rfl rfl ?_;(repeat (refine zAL rfl ?_));exact zAS)|(refine zA3 [2,1,0] zHk (hkn) ?_ rfl rfl (by decide) rfl rfl rfl rfl rfl rfl ?_;(repeat (refine zAL rfl ?_));exact zAS)|(refine zAV zRr hcn (zAX rfl zAG))|apply ay (hd:=rfl)|exact zAE rfl|exact zAC rfl|exact zBr rfl|exact zAb rfl|exact zAZ rfl|exact zEP rfl|(apply zAR;exact rfl;(with_reducible exact fy_3))|(apply zAU;exact rfl;(with_reducible exact zCj);exact rfl;exact rfl)|(apply zAQ;exact rfl)|apply zAP|apply zAM|apply zAJ|(apply res2;exact rfl;exact rfl)
    all_goals rfl
  · rw [if_neg h0]
    refine zAd Tryz.func15 rfl Tryz.ntmps15 Tryz.results15 rfl ?_
    intro wb St0
    repeat' first | (refine zBv (id:=10) (s:=[(0,.d (sigs E)),(1,.d (zAc t.fl)),(4,.nil),(5,.d (i64 0)),(8,.ptr 2 0)]) (h:=[.map none (mSto []),.bx none none [.d (i64 0),.mp 0],.bx none none [.ptr 1 0,.d (zAc t.fl),.d (sigs E),.d (i64 0)]]) (zAO (zAA rfl (zAA rfl (zAA rfl (zAA rfl (zAA rfl zAa))))) (zAD rfl rfl (zAD rfl rfl (zGq rfl zEQ zAN))) rfl rfl) ?_)|(apply zGl;(with_reducible exact zM2);(with_reducible exact zMd);exact zEV rfl (zEV rfl (zEV rfl zNk));exact rfl;exact rfl;exact rfl;exact rfl)|apply en_n|apply zAH|apply zAB|apply zAF|apply w0|(apply zB7;exact rfl;exact rfl;first|assumption|omega)|(apply zBU;exact rfl;exact rfl;first|assumption|omega)|(refine zAV zCs hc (zAX rfl zAG))|(refine zAV zEB hk (zAX rfl zAG))|(refine zAV zJ9 hm (zAX rfl (zAX rfl zAG)))|(refine zSl [] zIY (zIq 0) ?_ rfl rfl (by decide) rfl rfl rfl rfl rfl rfl ?_;(repeat (refine zAL rfl ?_));exact zAS)|exact zAo rfl|(refine zA3 [2,1,0] zDJ (hx) ?_ rfl rfl (by decide) rfl rfl rfl rfl rfl rfl ?_;(repeat (refine zAL rfl ?_));exact zAS)|(refine zA3 [2,1,0] zHk (hkn) ?_ rfl rfl (by decide) rfl rfl rfl rfl rfl rfl ?_;(repeat (refine zAL rfl ?_));exact zAS)|apply ay (hd:=rfl)|exact zAE rfl|exact zAC rfl|exact zBr rfl|exact zAb rfl|exact zAZ rfl|exact zEP rfl|(apply zAR;exact rfl;(with_reducible exact fy_3))|(apply zAU;exact rfl;(with_reducible exact zCj);exact rfl;exact rfl)|(apply zAK;exact rfl)|(apply zAQ;exact rfl)|apply zAP|apply zAM|refine zA6 (by kernel_rfl) (by kernel_rfl) ?_|apply en_r|apply zAJ|(apply zL7;exact rfl;exact rfl)
    all_goals rfl
end Go.Proofs.YtblomnkamngnbaaGreatDoor
namespace Go.Proofs.YtblomnkamngnbaaGreatDoor
inductive IR (E : List Sg) : List Nd → List Nd → Int → Prop
  | no (L : List Nd) : zCA L = false → IR E L [] 60
  | chk (t : Tr) : t.wf → chkT t false ≠ 0 → IR E t.fl [] (chkT t false)
  | env (t : Tr) : t.wf → chkT t false = 0 → envF E = false → IR E t.fl [] 110
  | name (t : Tr) : t.wf → chkT t false = 0 → envF E = true → nmdF E t.fl (zF6 t) = false → IR E t.fl [] 111
  | run (t : Tr) (q : Nat) (u r : List Nd) (S1 S2 : TS) : t.wf → chkT t false = 0 → envF E = true → nmdF E t.fl (zF6 t) = true → t.expS q E [] TS0 = some (u,S1) → zEd q S1 u = some (r,S2) → (S2.er = 0 → okT r = true) →
      IR E t.fl (if S2.er = 0 then zCm r else []) S2.er
open Go.Sx in
theorem IR.call {E : List Sg} {L r : List Nd} {e : Int} (h : IR E L r e) (hL : L.length ≤ 4000) (hE : E.length ≤ 1000) (hT : ∀ s ∈ E,s.ty.length ≤ 10000) : zAj Tryz.prog 15 [sigs E,zAc L] (.tup [zAc r,i64 e]):=by
  cases h with
  | no _ hw=>exact zSJ E L (by omega) hw
  | chk t hw hc=>exact zQt E t hw (by omega) hc
  | env t hw hc he=>exact zQs E t hw (by omega) (by omega) (fun s hs=>by have:=hT s hs;omega) hc he
  | name t hw hc he hn=>exact zOi E t hw (by omega) (by omega) (fun s hs=>by have:=hT s hs;omega) hc he hn
  | run t q u r S1 S2 hw hc he hn h1 h2 hr =>
    have:=zQr E t q u r S1 S2 hw (by rw [Tr.fl_len] at hL;omega) (by omega) hT hc he hn h1 h2 hr
    by_cases h0 : S2.er = 0
    · rw [if_pos h0] at this ⊢;rw [h0];exact this
    · rw [if_neg h0] at this ⊢;exact this
end Go.Proofs.YtblomnkamngnbaaGreatDoor
namespace Go.Proofs.YtblomnkamngnbaaGreatDoor
theorem IR.len {E : List Sg} {L r : List Nd} {e : Int} (h : IR E L r e) (h0 : e = 0) : r.length ≤ 4000:=by
  cases h with
  | no _ hw=>cases h0
  | chk t hw hc=>exact absurd h0 hc
  | env t hw hc he=>cases h0
  | name t hw hc he hn=>cases h0
  | run t q u r S1 S2 hw hc he hn h1 h2 hr =>
    rw [if_pos h0,(zQM (hr h0)).2.2.2];exact (zD7 (hr h0)).1
end Go.Proofs.YtblomnkamngnbaaGreatDoor
