/- Texts of this claim, merged: InfA. -/
import Derived.Test.YtblomnkamngnbaaGreatDoorMAP
import Derived.Test.YtblomnkamngnbaaGreatDoorMAX
import Derived.Test.YtblomnkamngnbaaGreatDoorMAZ
namespace Go.Proofs.YtblomnkamngnbaaGreatDoor
open Go.Sx
attribute [local irreducible] zAO Program.underlying Ylds zA3 alex zBY zBN awp zAm zBT zBe zAx zBA zBP zA2 zBR zBX zBa zBq zBI VCall
theorem zRr (f : FuncId) (c : D) (p : Sg → Bool) (hbf : zAO Tryz.prog f = true) (hp : ∀ u,zBA Tryz.prog f [.d (Sg.av u),.ptr 0 0] [.box [.d c]] (bl (p u))) (E : List Sg) (hE : E.length ≤ 2000000) :
    zBA Tryz.prog 53 [.d (sigs E),.clo f [0]] [.box [.d c]] (i64 (idxP p E)):=by
  refine zBw Tryz.func53 rfl Tryz.ntmps53 Tryz.results53 rfl ?_
  intro wb St0
  repeat' first | apply en_n|apply zAH|apply zAC|apply zAF|apply w0|apply ay (hd:=rfl)|exact zAE rfl|exact zAD rfl|(apply zAr;exact rfl;(with_reducible exact zEM))|apply zAJ
  refine zAs (α:=Nat) (fun i=>i ≤ E.length ∧ ∀ (j : Nat) u,j < i → E[j]? = some u → p u = false) (fun i=>[(0,.d (sigs E)),(1,.clo f [0]),(7,.d (i64 (E.length : Int))),(8,.d (i64 (i : Int)))]) (fun _=>[.box [.d c]]) (fun i=>E.length - i) 0 ⟨Nat.zero_le _,fun j u h=>by omega⟩
    (zAL (zAA rfl (zAA rfl (Le_d rfl rfl (zAA rfl zAW)))) (zAB rfl rfl zAK) rfl rfl) ?_
  rintro i ⟨hi1,hi2⟩
  repeat' first | apply en_n|apply zAH|apply zAC|apply zAF|apply w0|exact zA8 rfl|(refine zA6 [0] [0] rfl rfl hbf (hp v) rfl ?_ rfl (by decide) rfl rfl rfl rfl;(repeat (refine zAI rfl ?_));exact zAM)|(apply aI (hd:=rfl);(first|exact zAn rfl|exact Co_bb rfl rfl rfl|exact Co_nn rfl);exact rfl;(with_reducible exact zCL);exact fun _=>rfl;rotate_left;intro v hv;rotate_right)|apply ay (hd:=rfl)|exact zAE rfl|exact zAD rfl|(apply zAf;exact rfl;(with_reducible exact zIG);exact rfl)|exact zDG rfl rfl|(apply zBG;exact rfl;exact rfl)|(apply zA1;exact rfl;(intro hb);rotate_left;(intro hb);rotate_right)|(apply zDB;exact rfl;(intro hb);rotate_left;(intro hb);rotate_right)|apply zAJ|apply zAT|apply zAN|apply zAu|apply en_r|apply en_e|apply eb_n|apply eb_r|apply eb_e|apply zAP|(apply res1;exact rfl)
  · omega
  · exact zDm (zF5 hi2 hv (by simpa using hb)).symm
  · omega
  · refine ⟨i + 1,⟨by omega,fun j u hj hu=>?_⟩,by omega,zAL (zAA rfl (zAA rfl (zAA rfl (zAA rfl zAW)))) (zAB rfl rfl zAK) rfl rfl⟩
    rcases Nat.lt_or_ge j i with h1 | h1
    · exact hi2 j u h1 hu
    · have hv' : E[i]? = some v:=hv
      rw [show j = i by omega,hv'] at hu;injection hu with hu;subst hu;simpa using hb
  · exact zDm (zDl fun j u hu=>hi2 j u (by have:=(List.getElem?_eq_some_iff.1 hu).1;omega) hu).symm
theorem zWK (f : FuncId) (c c2 : D) (p : Sg → Bool) (hbf : zAO Tryz.prog f = true) (hp : ∀ u,zBA Tryz.prog f [.d (Sg.av u),.ptr 0 0] [.box [.d c,.d c2]] (bl (p u))) (E : List Sg) (hE : E.length ≤ 2000000) :
    zBA Tryz.prog 53 [.d (sigs E),.clo f [0]] [.box [.d c,.d c2]] (i64 (idxP p E)):=by
  refine zBw Tryz.func53 rfl Tryz.ntmps53 Tryz.results53 rfl ?_
  intro wb St0
  repeat' first | apply en_n|apply zAH|apply zAC|apply zAF|apply w0|apply ay (hd:=rfl)|exact zAE rfl|exact zAD rfl|(apply zAr;exact rfl;(with_reducible exact zEM))|apply zAJ
  refine zAs (α:=Nat) (fun i=>i ≤ E.length ∧ ∀ (j : Nat) u,j < i → E[j]? = some u → p u = false) (fun i=>[(0,.d (sigs E)),(1,.clo f [0]),(7,.d (i64 (E.length : Int))),(8,.d (i64 (i : Int)))]) (fun _=>[.box [.d c,.d c2]]) (fun i=>E.length - i) 0 ⟨Nat.zero_le _,fun j u h=>by omega⟩
    (zAL (zAA rfl (zAA rfl (Le_d rfl rfl (zAA rfl zAW)))) (zAB rfl rfl zAK) rfl rfl) ?_
  rintro i ⟨hi1,hi2⟩
  repeat' first | apply en_n|apply zAH|apply zAC|apply zAF|apply w0|exact zA8 rfl|(refine zA6 [0] [0] rfl rfl hbf (hp v) rfl ?_ rfl (by decide) rfl rfl rfl rfl;(repeat (refine zAI rfl ?_));exact zAM)|(apply aI (hd:=rfl);(first|exact zAn rfl|exact Co_bb rfl rfl rfl|exact Co_nn rfl);exact rfl;(with_reducible exact zCL);exact fun _=>rfl;rotate_left;intro v hv;rotate_right)|apply ay (hd:=rfl)|exact zAE rfl|exact zAD rfl|(apply zAf;exact rfl;(with_reducible exact zIG);exact rfl)|exact zDG rfl rfl|(apply zBG;exact rfl;exact rfl)|(apply zA1;exact rfl;(intro hb);rotate_left;(intro hb);rotate_right)|(apply zDB;exact rfl;(intro hb);rotate_left;(intro hb);rotate_right)|apply zAJ|apply zAT|apply zAN|apply zAu|apply en_r|apply en_e|apply eb_n|apply eb_r|apply eb_e|apply zAP|(apply res1;exact rfl)
  · omega
  · exact zDm (zF5 hi2 hv (by simpa using hb)).symm
  · omega
  · refine ⟨i + 1,⟨by omega,fun j u hj hu=>?_⟩,by omega,zAL (zAA rfl (zAA rfl (zAA rfl (zAA rfl zAW)))) (zAB rfl rfl zAK) rfl rfl⟩
    rcases Nat.lt_or_ge j i with h1 | h1
    · exact hi2 j u h1 hu
    · have hv' : E[i]? = some v:=hv
      rw [show j = i by omega,hv'] at hu;injection hu with hu;subst hu;simpa using hb
  · exact zDm (zDl fun j u hu=>hi2 j u (by have:=(List.getElem?_eq_some_iff.1 hu).1;omega) hu).symm
theorem zOw (s u : Sg) : zBA Tryz.prog 28 [.d u.av,.ptr 0 0] [.box (s.cells.map .d)] (bl (decide (u.name = s.name))):=by
  refine zBw Tryz.func28 rfl Tryz.ntmps28 Tryz.results28 rfl ?_
  intro wb St0
  repeat' first | apply en_n|apply zAH|apply zAC|apply zAF|apply w0|exact zHa rfl rfl|(apply aBox (hd:=rfl) (hro:=rfl);exact rfl;exact rfl)|apply ay (hd:=rfl)|exact zAD rfl|(apply zAS;exact rfl;(with_reducible exact fg_0))|(apply zAV;exact rfl;(with_reducible exact zA4);exact rfl;exact rfl)|apply zAN|apply zAP|(apply res1;exact rfl)
  rfl
theorem zH4 {α : Type} {p : α → Bool} {L : List α} : (idxP p L ≥ 0) ↔ L.any p = true:=by
  constructor
  · intro h
    unfold idxP at h;split at h
    · rename_i i hi
      obtain ⟨h1,h2,_⟩:=List.findIdx?_eq_some_iff_getElem.1 hi
      exact List.any_eq_true.2 ⟨_,List.getElem_mem h1,h2⟩
    · omega
  · intro h
    obtain ⟨x,hx,hpx⟩:=List.any_eq_true.1 h
    unfold idxP;split
    · omega
    · rename_i hn;rw [List.findIdx?_eq_none_iff] at hn;rw [hn x hx] at hpx;cases hpx
theorem zWQ (f : FuncId) (c c2 : D) (p : Sg → Bool) (hbf : zAO Tryz.prog f = true) (hp : ∀ u,zBA Tryz.prog f [.d (Sg.av u),.ptr 0 0] [.box [.d c,.d c2]] (bl (p u))) (E : List Sg) (hE : E.length ≤ 2000000) :
    zBA Tryz.prog 32 [.d (sigs E),.clo f [0]] [.box [.d c,.d c2]] (bl (E.any p)):=by
  refine zBw Tryz.func32 rfl Tryz.ntmps32 Tryz.results32 rfl ?_
  intro wb St0
  repeat' first | apply en_n|apply zAH|apply zAC|apply zAF|apply w0|exact zA8 rfl|(refine zA6 [0] [] rfl rfl zQi (zWK f c c2 p hbf hp E hE) rfl ?_ rfl (by decide) rfl rfl rfl rfl;(repeat (refine zAI rfl ?_));exact zAM)|apply ay (hd:=rfl)|exact zAE rfl|exact zAD rfl|exact zFp rfl rfl|apply zAN|apply zAP|(apply res1;exact rfl)
  refine zD6 ?_
  by_cases h : E.any p = true
  · rw [h];simpa using zH4.2 h
  · rw [Bool.eq_false_iff.2 h];simpa using fun c=>h (zH4.1 c)
set_option maxHeartbeats 4000000 in
theorem zHr (L : List Nd) (hL : L.length ≤ 2000000) : ∀ (m n : Nat) (t : Tr),t.sz ≤ m → At L n t → t.werr false = 0 →
    zAm Tryz.prog 35 [zAc L,i64 (n : Int)] (bl t.val)
  | 0,n,t,hm,_,_=>by have:=zBO t;omega
  | m + 1,n,.mk x ks,hm,h,hw=>by
    have ih:=zHr L hL m
    have hx:=h.here
    have hlen:=h.len
    refine zAd Tryz.func35 rfl Tryz.ntmps35 Tryz.results35 rfl ?_
    intro wb St0
    have hpos : n < L.length:=(List.getElem?_eq_some_iff.1 hx).1
    by_cases hk : x.kind = 6
    · have h1:=zDC hw
      have h5:=(zCv h1.1).2.2
      rw [hk] at h5
      have h6 : x.kids = 2:=by simpa [cntK] using h5
      have hkn:=h.kidn
      match ks,hkn,h,h1,hm with
      | [a,b],hkn,h,h1,hm =>
        have ha:=h.kid (i:=0) (k:=a) rfl
        have hb':=h.kid (i:=1) (k:=b) rfl
        rw [Tr.sz,szL,szL,szL] at hm
        have wa:=zBB (j:=0) h1.2 (k:=a) rfl
        have wb2:=zBB (j:=1) h1.2 (k:=b) rfl
        have hk0:=h.kids_get (i:=0) (by simp)
        have hk1:=h.kids_get (i:=1) (by simp)
        have hha:=ha.hd
        have va:=ih _ a (by omega) ha (by simpa [hk] using wa)
        have vb:=ih _ b (by omega) hb' (by simpa [hk] using wb2)
        have hkid:=zCm L (n : Int) hL
        have hsa : kidAt n [a,b] 0 < L.length:=(List.getElem?_eq_some_iff.1 hha).1
        clear h1 wa wb2 ih hw h5 hkn h6 ha hb' h
        generalize kidAt n [a,b] 0 = p0 at *
        generalize kidAt n [a,b] 1 = p1 at *
        generalize zBn L (n : Int) = KK at *
        have hv : Tr.val (.mk x [a,b]) = ((decide (a.hd.kind = 4) || decide (a.hd.kind = 6)) && (a.val && b.val)):=by
          rw [Tr.val.eq_1,if_neg (by omega),if_pos hk];rfl
        rw [hv]
        clear hv
        generalize a.val = av at *
        generalize b.val = bv at *
        generalize a.hd = y at *
        repeat' first | apply en_n|apply zAH|apply zAC|apply zAF|apply w0|(apply k1u (hd:=rfl);exact rfl;exact rfl)|(apply k0u (hd:=rfl);exact rfl;exact rfl)|(apply zBV;exact rfl;exact rfl;first|assumption|omega)|(apply zBW;exact rfl;exact rfl;first|assumption|omega)|(refine zAX zCj hkid (zAZ rfl (zAZ rfl zAG)))|(refine zAX zFh va (zAZ rfl (zAZ rfl zAG)))|(refine zAX zFh vb (zAZ rfl (zAZ rfl zAG)))|(apply aJ (hd:=rfl);(first|exact zAn rfl|exact Co_bb rfl rfl rfl|exact Co_nn rfl);exact rfl;(with_reducible first|exact zAa|exact zBD);assumption;omega;exact fun _=>rfl)|apply ay (hd:=rfl)|exact zAE rfl|exact zAD rfl|(apply zA5;exact rfl;(with_reducible exact fn_0))|(apply zAi;exact rfl;(with_reducible first|exact zAz|exact zAk))|exact zD7 rfl rfl|exact zAq rfl rfl|exact zAo rfl rfl|(apply w1;exact rfl;exact rfl)|(apply gD;exact rfl;exact rfl;(intro hb);rotate_left;(intro hb);rotate_right)|(apply g1;exact rfl;exact rfl;(intro hb);rotate_left;(intro hb);rotate_right)|(apply zAQ;exact rfl)|(apply zAU;exact rfl)|apply zAJ|apply zAN|apply en_r|apply eb_r|apply zAP|(apply res1;exact rfl)
        all_goals simp [*]
      | [],hkn,_,_,_=>simp at hkn;omega
      | [_],hkn,_,_,_=>simp at hkn;omega
      | _ :: _ :: _ :: _,hkn,_,_,_=>simp at hkn;omega
    · clear ih hw h
      have hv : Tr.val (.mk x ks) = decide (1 ≤ x.kind ∧ x.kind ≤ 5):=by
        cases ks <;> simp [Tr.val,hk]
      rw [hv]
      clear hv
      have hc : x.kind = 1 ∨ x.kind = 2 ∨ x.kind = 3 ∨ x.kind = 4 ∨ x.kind = 5 ∨ (x.kind ≠ 1 ∧ x.kind ≠ 2 ∧ x.kind ≠ 3 ∧ x.kind ≠ 4 ∧ x.kind ≠ 5):=by omega
      rcases hc with hc | hc | hc | hc | hc | ⟨h1,h2,h3,h4,h5⟩
      all_goals skip
      repeat' first | apply en_n|apply zAH|apply zAC|apply zAF|apply w0|(apply zBV;exact rfl;exact rfl;first|assumption|omega)|(apply zBW;exact rfl;exact rfl;first|assumption|omega)|(apply aJ (hd:=rfl);(first|exact zAn rfl|exact Co_bb rfl rfl rfl|exact Co_nn rfl);exact rfl;(with_reducible exact zAa);assumption;omega;exact fun _=>rfl)|apply ay (hd:=rfl)|exact zAE rfl|exact zAD rfl|(apply zA5;exact rfl;(with_reducible exact fn_0))|(apply zAi;exact rfl;(with_reducible exact zAk))|(apply zAQ;exact rfl)|(apply zAU;exact rfl)|apply zAJ|apply zAT|apply zAN|apply en_r|apply eb_n|apply eb_r|apply zAP|(apply res1;exact rfl)
      all_goals (refine zD6 ?_;simp;omega)
end Go.Proofs.YtblomnkamngnbaaGreatDoor
