/- Texts of this claim, merged: InfA. -/
import Derived.Test.YtblomnkamngnbaaGreatDoorMAO
import Derived.Test.YtblomnkamngnbaaGreatDoorMAW
import Derived.Test.YtblomnkamngnbaaGreatDoorMAY
namespace Go.Proofs.YtblomnkamngnbaaGreatDoor
open Go.Sx
attribute [local irreducible] zAT Program.underlying Ylds zBA alex zBe zBP awp zAj zBZ zBk zA2 zBH zBR zA8 zBV zBb zBf zBu zBO VCall
theorem zQw (f : FuncId) (c : D) (p : Sg → Bool) (hbf : zAT Tryz.prog f = true) (hp : ∀ u,zBH Tryz.prog f [.d (Sg.av u),.ptr 0 0] [.box [.d c]] (bl (p u))) (E : List Sg) (hE : E.length ≤ 2000000) :
    zBH Tryz.prog 53 [.d (sigs E),.clo f [0]] [.box [.d c]] (i64 (idxP p E)):=by
  refine zBx Tryz.func53 rfl Tryz.ntmps53 Tryz.results53 rfl ?_
  intro wb St0
  repeat' first | apply en_n|apply zAH|apply zAB|apply zAF|apply w0|apply ay (hd:=rfl)|exact zAE rfl|exact zAC rfl|(apply zAl;exact rfl;(with_reducible exact zEC))|apply zAI
  refine zAr (α:=Nat) (fun i=>i ≤ E.length ∧ ∀ (j : Nat) u,j < i → E[j]? = some u → p u = false) (fun i=>[(0,.d (sigs E)),(1,.clo f [0]),(7,.d (i64 (E.length : Int))),(8,.d (i64 (i : Int)))]) (fun _=>[.box [.d c]]) (fun i=>E.length - i) 0 ⟨Nat.zero_le _,fun j u h=>by omega⟩
    (zAO (zAA rfl (zAA rfl (Le_d rfl rfl (zAA rfl zAa)))) (zAD rfl rfl zAN) rfl rfl) ?_
  rintro i ⟨hi1,hi2⟩
  repeat' first | apply en_n|apply zAH|apply zAB|apply zAF|apply w0|exact zBF rfl|(refine zBB [0] [0] rfl rfl hbf (hp v) rfl ?_ rfl (by decide) rfl rfl rfl rfl;(repeat (refine zAL rfl ?_));exact zAS)|(apply aI (hd:=rfl);(first|exact zAk rfl|exact Co_bb rfl rfl rfl|exact Co_nn rfl);exact rfl;(with_reducible exact zCL);exact fun _=>rfl;rotate_left;intro v hv;rotate_right)|apply ay (hd:=rfl)|exact zAE rfl|exact zAC rfl|(apply zAf;exact rfl;(with_reducible exact zFp);exact rfl)|exact zCT rfl rfl|(apply zBC;exact rfl;exact rfl)|(apply zAz;exact rfl;(intro hb);rotate_left;(intro hb);rotate_right)|(apply zCc;exact rfl;(intro hb);rotate_left;(intro hb);rotate_right)|apply zAI|apply zAP|apply zAM|apply zAt|apply en_r|apply en_e|apply eb_n|apply eb_r|apply eb_e|apply zAJ|(apply res1;exact rfl)
  · omega
  · exact zCr (zFi hi2 hv (by simpa using hb)).symm
  · omega
  · refine ⟨i + 1,⟨by omega,fun j u hj hu=>?_⟩,by omega,zAO (zAA rfl (zAA rfl (zAA rfl (zAA rfl zAa)))) (zAD rfl rfl zAN) rfl rfl⟩
    rcases Nat.lt_or_ge j i with h1 | h1
    · exact hi2 j u h1 hu
    · have hv' : E[i]? = some v:=hv
      rw [show j = i by omega,hv'] at hu;injection hu with hu;subst hu;simpa using hb
  · exact zCr (zDg fun j u hu=>hi2 j u (by have:=(List.getElem?_eq_some_iff.1 hu).1;omega) hu).symm
theorem zVJ (f : FuncId) (c c2 : D) (p : Sg → Bool) (hbf : zAT Tryz.prog f = true) (hp : ∀ u,zBH Tryz.prog f [.d (Sg.av u),.ptr 0 0] [.box [.d c,.d c2]] (bl (p u))) (E : List Sg) (hE : E.length ≤ 2000000) :
    zBH Tryz.prog 53 [.d (sigs E),.clo f [0]] [.box [.d c,.d c2]] (i64 (idxP p E)):=by
  refine zBx Tryz.func53 rfl Tryz.ntmps53 Tryz.results53 rfl ?_
  intro wb St0
  repeat' first | apply en_n|apply zAH|apply zAB|apply zAF|apply w0|apply ay (hd:=rfl)|exact zAE rfl|exact zAC rfl|(apply zAl;exact rfl;(with_reducible exact zEC))|apply zAI
  refine zAr (α:=Nat) (fun i=>i ≤ E.length ∧ ∀ (j : Nat) u,j < i → E[j]? = some u → p u = false) (fun i=>[(0,.d (sigs E)),(1,.clo f [0]),(7,.d (i64 (E.length : Int))),(8,.d (i64 (i : Int)))]) (fun _=>[.box [.d c,.d c2]]) (fun i=>E.length - i) 0 ⟨Nat.zero_le _,fun j u h=>by omega⟩
    (zAO (zAA rfl (zAA rfl (Le_d rfl rfl (zAA rfl zAa)))) (zAD rfl rfl zAN) rfl rfl) ?_
  rintro i ⟨hi1,hi2⟩
  repeat' first | apply en_n|apply zAH|apply zAB|apply zAF|apply w0|exact zBF rfl|(refine zBB [0] [0] rfl rfl hbf (hp v) rfl ?_ rfl (by decide) rfl rfl rfl rfl;(repeat (refine zAL rfl ?_));exact zAS)|(apply aI (hd:=rfl);(first|exact zAk rfl|exact Co_bb rfl rfl rfl|exact Co_nn rfl);exact rfl;(with_reducible exact zCL);exact fun _=>rfl;rotate_left;intro v hv;rotate_right)|apply ay (hd:=rfl)|exact zAE rfl|exact zAC rfl|(apply zAf;exact rfl;(with_reducible exact zFp);exact rfl)|exact zCT rfl rfl|(apply zBC;exact rfl;exact rfl)|(apply zAz;exact rfl;(intro hb);rotate_left;(intro hb);rotate_right)|(apply zCc;exact rfl;(intro hb);rotate_left;(intro hb);rotate_right)|apply zAI|apply zAP|apply zAM|apply zAt|apply en_r|apply en_e|apply eb_n|apply eb_r|apply eb_e|apply zAJ|(apply res1;exact rfl)
  · omega
  · exact zCr (zFi hi2 hv (by simpa using hb)).symm
  · omega
  · refine ⟨i + 1,⟨by omega,fun j u hj hu=>?_⟩,by omega,zAO (zAA rfl (zAA rfl (zAA rfl (zAA rfl zAa)))) (zAD rfl rfl zAN) rfl rfl⟩
    rcases Nat.lt_or_ge j i with h1 | h1
    · exact hi2 j u h1 hu
    · have hv' : E[i]? = some v:=hv
      rw [show j = i by omega,hv'] at hu;injection hu with hu;subst hu;simpa using hb
  · exact zCr (zDg fun j u hu=>hi2 j u (by have:=(List.getElem?_eq_some_iff.1 hu).1;omega) hu).symm
theorem zOI (s u : Sg) : zBH Tryz.prog 28 [.d u.av,.ptr 0 0] [.box (s.cells.map .d)] (bl (decide (u.name = s.name))):=by
  refine zBx Tryz.func28 rfl Tryz.ntmps28 Tryz.results28 rfl ?_
  intro wb St0
  repeat' first | apply en_n|apply zAH|apply zAB|apply zAF|apply w0|exact zGo rfl rfl|(apply aBox (hd:=rfl) (hro:=rfl);exact rfl;exact rfl)|apply ay (hd:=rfl)|exact zAC rfl|(apply zAR;exact rfl;(with_reducible exact fg_0))|(apply zAU;exact rfl;(with_reducible exact zAv);exact rfl;exact rfl)|apply zAM|apply zAJ|(apply res1;exact rfl)
  rfl
theorem zHs {α : Type} {p : α → Bool} {L : List α} : (idxP p L ≥ 0) ↔ L.any p = true:=by
  constructor
  · intro h
    unfold idxP at h;split at h
    · rename_i i hi
      obtain ⟨h1,h2,_⟩:=List.findIdx?_eq_some_iff_getElem.1 hi
      exact List.any_eq_true.2 ⟨_,List.getElem_mem h1,h2⟩
    · omega
  · intro h
    obtain ⟨x,hx,hpx⟩:=List.any_eq_true.1 h
    unfold idxP;split
    · omega
    · rename_i hn;rw [List.findIdx?_eq_none_iff] at hn;rw [hn x hx] at hpx;cases hpx
theorem zVO (f : FuncId) (c c2 : D) (p : Sg → Bool) (hbf : zAT Tryz.prog f = true) (hp : ∀ u,zBH Tryz.prog f [.d (Sg.av u),.ptr 0 0] [.box [.d c,.d c2]] (bl (p u))) (E : List Sg) (hE : E.length ≤ 2000000) :
    zBH Tryz.prog 32 [.d (sigs E),.clo f [0]] [.box [.d c,.d c2]] (bl (E.any p)):=by
  refine zBx Tryz.func32 rfl Tryz.ntmps32 Tryz.results32 rfl ?_
  intro wb St0
  repeat' first | apply en_n|apply zAH|apply zAB|apply zAF|apply w0|exact zBF rfl|(refine zBB [0] [] rfl rfl zPs (zVJ f c c2 p hbf hp E hE) rfl ?_ rfl (by decide) rfl rfl rfl rfl;(repeat (refine zAL rfl ?_));exact zAS)|apply ay (hd:=rfl)|exact zAE rfl|exact zAC rfl|exact zEU rfl rfl|apply zAM|apply zAJ|(apply res1;exact rfl)
  refine zDB ?_
  by_cases h : E.any p = true
  · rw [h];simpa using zHs.2 h
  · rw [Bool.eq_false_iff.2 h];simpa using fun c=>h (zHs.1 c)
set_option maxHeartbeats 4000000 in
theorem zHd (L : List Nd) (hL : L.length ≤ 2000000) : ∀ (m n : Nat) (t : Tr),t.sz ≤ m → At L n t → t.werr false = 0 →
    zAj Tryz.prog 35 [zAc L,i64 (n : Int)] (bl t.val)
  | 0,n,t,hm,_,_=>by have:=zBS t;omega
  | m + 1,n,.mk x ks,hm,h,hw=>by
    have ih:=zHd L hL m
    have hx:=h.here
    have hlen:=h.len
    refine zAd Tryz.func35 rfl Tryz.ntmps35 Tryz.results35 rfl ?_
    intro wb St0
    have hpos : n < L.length:=(List.getElem?_eq_some_iff.1 hx).1
    by_cases hk : x.kind = 6
    · have h1:=zC7 hw
      have h5:=(zCO h1.1).2.2
      rw [hk] at h5
      have h6 : x.kids = 2:=by simpa [cntK] using h5
      have hkn:=h.kidn
      match ks,hkn,h,h1,hm with
      | [a,b],hkn,h,h1,hm =>
        have ha:=h.kid (i:=0) (k:=a) rfl
        have hb':=h.kid (i:=1) (k:=b) rfl
        rw [Tr.sz,szL,szL,szL] at hm
        have wa:=zBa (j:=0) h1.2 (k:=a) rfl
        have wb2:=zBa (j:=1) h1.2 (k:=b) rfl
        have hk0:=h.kids_get (i:=0) (by simp)
        have hk1:=h.kids_get (i:=1) (by simp)
        have hha:=ha.hd
        have va:=ih _ a (by omega) ha (by simpa [hk] using wa)
        have vb:=ih _ b (by omega) hb' (by simpa [hk] using wb2)
        have hkid:=zCd L (n : Int) hL
        have hsa : kidAt n [a,b] 0 < L.length:=(List.getElem?_eq_some_iff.1 hha).1
        clear h1 wa wb2 ih hw h5 hkn h6 ha hb' h
        generalize kidAt n [a,b] 0 = p0 at *
        generalize kidAt n [a,b] 1 = p1 at *
        generalize zBX L (n : Int) = KK at *
        have hv : Tr.val (.mk x [a,b]) = ((decide (a.hd.kind = 4) || decide (a.hd.kind = 6)) && (a.val && b.val)):=by
          rw [Tr.val.eq_1,if_neg (by omega),if_pos hk];rfl
        rw [hv]
        clear hv
        generalize a.val = av at *
        generalize b.val = bv at *
        generalize a.hd = y at *
        repeat' first | apply en_n|apply zAH|apply zAB|apply zAF|apply w0|(apply k1u (hd:=rfl);exact rfl;exact rfl)|(apply k0u (hd:=rfl);exact rfl;exact rfl)|(apply zBD;exact rfl;exact rfl;first|assumption|omega)|(apply zA9;exact rfl;exact rfl;first|assumption|omega)|(refine zAV zCY hkid (zAX rfl (zAX rfl zAG)))|(refine zAV zFN va (zAX rfl (zAX rfl zAG)))|(refine zAV zFN vb (zAX rfl (zAX rfl zAG)))|(apply aJ (hd:=rfl);(first|exact zAk rfl|exact Co_bb rfl rfl rfl|exact Co_nn rfl);exact rfl;(with_reducible first|exact zAW|exact zA7);assumption;omega;exact fun _=>rfl)|apply ay (hd:=rfl)|exact zAE rfl|exact zAC rfl|(apply zAy;exact rfl;(with_reducible exact fn_0))|(apply zAg;exact rfl;(with_reducible first|exact zAs|exact zAe))|exact zC6 rfl rfl|exact zAi rfl rfl|exact zAh rfl rfl|(apply w1;exact rfl;exact rfl)|(apply gD;exact rfl;exact rfl;(intro hb);rotate_left;(intro hb);rotate_right)|(apply g1;exact rfl;exact rfl;(intro hb);rotate_left;(intro hb);rotate_right)|(apply zAK;exact rfl)|(apply zAQ;exact rfl)|apply zAI|apply zAM|apply en_r|apply eb_r|apply zAJ|(apply res1;exact rfl)
        all_goals simp [*]
      | [],hkn,_,_,_=>simp at hkn;omega
      | [_],hkn,_,_,_=>simp at hkn;omega
      | _ :: _ :: _ :: _,hkn,_,_,_=>simp at hkn;omega
    · clear ih hw h
      have hv : Tr.val (.mk x ks) = decide (1 ≤ x.kind ∧ x.kind ≤ 5):=by
        cases ks <;> simp [Tr.val,hk]
      rw [hv]
      clear hv
      have hc : x.kind = 1 ∨ x.kind = 2 ∨ x.kind = 3 ∨ x.kind = 4 ∨ x.kind = 5 ∨ (x.kind ≠ 1 ∧ x.kind ≠ 2 ∧ x.kind ≠ 3 ∧ x.kind ≠ 4 ∧ x.kind ≠ 5):=by omega
      rcases hc with hc | hc | hc | hc | hc | ⟨h1,h2,h3,h4,h5⟩
      all_goals skip
      repeat' first | apply en_n|apply zAH|apply zAB|apply zAF|apply w0|(apply zBD;exact rfl;exact rfl;first|assumption|omega)|(apply zA9;exact rfl;exact rfl;first|assumption|omega)|(apply aJ (hd:=rfl);(first|exact zAk rfl|exact Co_bb rfl rfl rfl|exact Co_nn rfl);exact rfl;(with_reducible exact zAW);assumption;omega;exact fun _=>rfl)|apply ay (hd:=rfl)|exact zAE rfl|exact zAC rfl|(apply zAy;exact rfl;(with_reducible exact fn_0))|(apply zAg;exact rfl;(with_reducible exact zAe))|(apply zAK;exact rfl)|(apply zAQ;exact rfl)|apply zAI|apply zAP|apply zAM|apply en_r|apply eb_n|apply eb_r|apply zAJ|(apply res1;exact rfl)
      all_goals (refine zDB ?_;simp;omega)
end Go.Proofs.YtblomnkamngnbaaGreatDoor
