/- Texts of this claim, merged: RefD. -/
import Derived.Test.YtblomnkamngnbaaGreatDoorMAF
import Derived.Test.YtblomnkamngnbaaGreatDoorMAW
import Derived.Test.YtblomnkamngnbaaGreatDoorMBC
import Derived.Test.YtblomnkamngnbaaGreatDoorMBS
import Derived.Test.YtblomnkamngnbaaGreatDoorMBT
namespace Go.Proofs.YtblomnkamngnbaaGreatDoor
open Go.Sx Go.RowKit
theorem zLD : zAT Tryz.prog 22 = true:=by kernel_rfl
theorem zIV : zAT Tryz.prog 7 = true:=by kernel_rfl
theorem zF3 : zAT Tryz.prog 9 = true:=by kernel_rfl
theorem zIU : zAT Tryz.prog 6 = true:=by kernel_rfl
attribute [local irreducible] zAT Program.underlying Ylds zBA alex zBe zBP awp zAj zBZ zBk zA2 zBH zBR zA8 zBV zBb zBf zBu zBO
set_option maxHeartbeats 4000000 in
theorem zN4 (t : Tr) (hw : t.wf) (pat : Bool) (hL : t.fl.length ≤ 1000000) (hT : Txs t.fl) : zAj Tryz.prog 8 [zAc t.fl,bl pat] (i64 (chkT t pat)):=by
  have hW:=zH7 t.fl (by omega)
  rw [zJd hw] at hW
  have hD:=zRL t.fl hL t.fl.length 0 (by omega) (by omega)
  rw [zL8 (zJd hw) (by omega)] at hD
  have hn:=zI6 t.fl hL hT t.sz 0 t pat (Nat.le_refl _) (.top hw)
  have hsz:=Tr.fl_len t
  refine zAd Tryz.func8 rfl Tryz.ntmps8 Tryz.results8 rfl ?_
  intro wb St0
  by_cases h1 : 4000 < t.sz ∨ 100 < zDu t.fl
  · rw [chkT,if_pos h1]
    generalize zDu t.fl = d at *
    by_cases h3 : 4000 < t.sz
    · have h5 : (t.fl.length : Int) > 4000:=by omega
      clear hn
      skip
      repeat' first | apply en_n|apply zAH|apply zAB|apply zAF|apply w0|(apply k0u (hd:=rfl);exact rfl;exact rfl)|(apply zEo;exact rfl;exact rfl;first|assumption|omega)|apply ay (hd:=rfl)|exact zAE rfl|exact zAC rfl|(apply zAl;exact rfl;(with_reducible exact zA0))|exact zAi rfl rfl|(apply zAK;exact rfl)|apply zAM|apply en_r|apply zAJ|(apply res1;exact rfl)
      all_goals rfl
    · have h5 : ¬ (t.fl.length : Int) > 4000:=by omega
      have h6 : 100 < d:=by omega
      clear hn
      skip
      repeat' first | apply en_n|apply zAH|apply zAB|apply zAF|apply w0|(apply zEo;exact rfl;exact rfl;first|assumption|omega)|(apply zDo;exact rfl;exact rfl;first|assumption|omega)|(refine zAV zEe hW (zAX rfl zAG))|(refine zAV zGZ hD (zAX rfl (zAX rfl zAG)))|apply ay (hd:=rfl)|exact zAE rfl|exact zAC rfl|(apply zAl;exact rfl;(with_reducible exact zA0))|exact zBr rfl|exact zAh rfl rfl|(apply w1;exact rfl;exact rfl)|(apply zAK;exact rfl)|apply zAM|apply en_r|apply zAJ|(apply res1;exact rfl)
      all_goals rfl
  · have h3 : ¬ (t.fl.length : Int) > 4000:=by omega
    have h4 : ¬ 100 < zDu t.fl:=fun c=>h1 (.inr c)
    rw [chkT,if_neg h1]
    by_cases h2 : t.werr pat = 0
    · have htw:=zI5 t.fl hL t.sz 0 t pat (Nat.le_refl _) (.top hw) h2
      rw [if_neg (by rw [h2];decide)]
      rw [h2] at hn
      generalize zDu t.fl = d at *
      clear h2 h1
      cases hb9 : t.tw with
      | true =>
        rw [hb9] at htw
        clear hb9
        skip
        repeat' first | apply en_n|apply zAH|apply zAB|apply zAF|apply w0|(apply zDo;exact rfl;exact rfl;first|assumption|omega)|(apply zBU;exact rfl;exact rfl;first|assumption|omega)|(refine zAV zEe hW (zAX rfl zAG))|(refine zAV zGZ hD (zAX rfl (zAX rfl zAG)))|(refine zAV zEf hn (zAX rfl (zAX rfl (zAX rfl zAG))))|(refine zAV zFj htw (zAX rfl (zAX rfl zAG)))|apply ay (hd:=rfl)|exact zAE rfl|exact zAC rfl|(apply zAl;exact rfl;(with_reducible exact zA0))|exact zBr rfl|exact zAh rfl rfl|(apply w1;exact rfl;exact rfl)|(apply zAK;exact rfl)|(apply zAQ;exact rfl)|apply zAP|apply zAM|apply en_r|apply zAJ|(apply res1;exact rfl)
        all_goals rfl
      | false =>
        rw [hb9] at htw
        clear hb9
        skip
        repeat' first | apply en_n|apply zAH|apply zAB|apply zAF|apply w0|(apply zDo;exact rfl;exact rfl;first|assumption|omega)|(apply zBU;exact rfl;exact rfl;first|assumption|omega)|(refine zAV zEe hW (zAX rfl zAG))|(refine zAV zGZ hD (zAX rfl (zAX rfl zAG)))|(refine zAV zEf hn (zAX rfl (zAX rfl (zAX rfl zAG))))|(refine zAV zFj htw (zAX rfl (zAX rfl zAG)))|apply ay (hd:=rfl)|exact zAE rfl|exact zAC rfl|(apply zAl;exact rfl;(with_reducible exact zA0))|exact zBr rfl|exact zAh rfl rfl|(apply w1;exact rfl;exact rfl)|(apply zAQ;exact rfl)|apply zAP|apply zAM|apply zAJ|(apply res1;exact rfl)
        all_goals rfl
    · rw [if_pos h2]
      generalize t.werr pat = e at *
      generalize zDu t.fl = d at *
      clear h1
      skip
      repeat' first | apply en_n|apply zAH|apply zAB|apply zAF|apply w0|(apply zDo;exact rfl;exact rfl;first|assumption|omega)|(apply zB7;exact rfl;exact rfl;first|assumption|omega)|(refine zAV zEe hW (zAX rfl zAG))|(refine zAV zGZ hD (zAX rfl (zAX rfl zAG)))|(refine zAV zEf hn (zAX rfl (zAX rfl (zAX rfl zAG))))|apply ay (hd:=rfl)|exact zAE rfl|exact zAC rfl|(apply zAl;exact rfl;(with_reducible exact zA0))|exact zBr rfl|exact zAh rfl rfl|(apply w1;exact rfl;exact rfl)|(apply zAK;exact rfl)|(apply zAQ;exact rfl)|apply zAP|apply zAM|apply en_r|apply zAJ|(apply res1;exact rfl)
      all_goals rfl
theorem zN5 (L : List Nd) (pat : Bool) (hL : L.length ≤ 1000000) (hw : zCA L = false) : zAj Tryz.prog 8 [zAc L,bl pat] (i64 60):=by
  have hW:=zH7 L (by omega)
  rw [hw] at hW
  refine zAd Tryz.func8 rfl Tryz.ntmps8 Tryz.results8 rfl ?_
  intro wb St0
  repeat' first | apply en_n|apply zAH|apply zAB|apply zAF|apply w0|(apply k0u (hd:=rfl);exact rfl;exact rfl)|(refine zAV zEe hW (zAX rfl zAG))|apply ay (hd:=rfl)|exact zAE rfl|exact zAC rfl|(apply zAl;exact rfl;(with_reducible exact zA0))|exact zEp rfl rfl|exact zBr rfl|exact zAi rfl rfl|exact zAh rfl rfl|(apply w1;exact rfl;exact rfl)|(apply gD;exact rfl;exact rfl;(intro hb);rotate_left;(intro hb);rotate_right)|(apply zAK;exact rfl)|apply zAM|apply en_r|apply zAJ|(apply res1;exact rfl)
  all_goals rfl
set_option maxHeartbeats 4000000 in
theorem zH9 (L : List Nd) (hL : L.length ≤ 2000000) : ∀ (m n : Nat) (t : Tr),t.sz ≤ m → At L n t → t.werr false = 0 →
    zAj Tryz.prog 9 [zAc L,i64 (n : Int)] (bl t.val)
  | 0,n,t,hm,_,_=>by have:=zBS t;omega
  | m + 1,n,.mk x ks,hm,h,hw=>by
    have ih:=zH9 L hL m
    have hx:=h.here
    have hlen:=h.len
    refine zAd Tryz.func9 rfl Tryz.ntmps9 Tryz.results9 rfl ?_
    intro wb St0
    have hpos : n < L.length:=(List.getElem?_eq_some_iff.1 hx).1
    by_cases hk : x.kind = 6
    · have h1:=zC7 hw
      have h5:=(zCO h1.1).2.2
      rw [hk] at h5
      have h6 : x.kids = 2:=by simpa [cntK] using h5
      have hkn:=h.kidn
      match ks,hkn,h,h1,hm with
      | [a,b],hkn,h,h1,hm =>
        have ha:=h.kid (i:=0) (k:=a) rfl
        have hb':=h.kid (i:=1) (k:=b) rfl
        rw [Tr.sz,szL,szL,szL] at hm
        have wa:=zBa (j:=0) h1.2 (k:=a) rfl
        have wb2:=zBa (j:=1) h1.2 (k:=b) rfl
        have hk0:=h.kids_get (i:=0) (by simp)
        have hk1:=h.kids_get (i:=1) (by simp)
        have hha:=ha.hd
        have va:=ih _ a (by omega) ha (by simpa [hk] using wa)
        have vb:=ih _ b (by omega) hb' (by simpa [hk] using wb2)
        have hkid:=zEt L (n : Int) hL
        have hsa : kidAt n [a,b] 0 < L.length:=(List.getElem?_eq_some_iff.1 hha).1
        clear h1 wa wb2 ih hw h5 hkn h6 ha hb' h
        generalize kidAt n [a,b] 0 = p0 at *
        generalize kidAt n [a,b] 1 = p1 at *
        generalize zBX L (n : Int) = KK at *
        have hv : Tr.val (.mk x [a,b]) = ((decide (a.hd.kind = 4) || decide (a.hd.kind = 6)) && (a.val && b.val)):=by
          rw [Tr.val.eq_1,if_neg (by omega),if_pos hk];rfl
        rw [hv]
        clear hv
        generalize a.val = av at *
        generalize b.val = bv at *
        generalize a.hd = y at *
        repeat' first | apply en_n|apply zAH|apply zAB|apply zAF|apply w0|(apply k1u (hd:=rfl);exact rfl;exact rfl)|(apply k0u (hd:=rfl);exact rfl;exact rfl)|(apply zBD;exact rfl;exact rfl;first|assumption|omega)|(apply zA9;exact rfl;exact rfl;first|assumption|omega)|(refine zAV zEw hkid (zAX rfl (zAX rfl zAG)))|(refine zAV zF3 va (zAX rfl (zAX rfl zAG)))|(refine zAV zF3 vb (zAX rfl (zAX rfl zAG)))|(apply aJ (hd:=rfl);(first|exact zAk rfl|exact Co_bb rfl rfl rfl|exact Co_nn rfl);exact rfl;(with_reducible first|exact zAW|exact zA7);assumption;omega;exact fun _=>rfl)|apply ay (hd:=rfl)|exact zAE rfl|exact zAC rfl|(apply zAy;exact rfl;(with_reducible exact fn_0))|(apply zAg;exact rfl;(with_reducible first|exact zAs|exact zAe))|exact zC6 rfl rfl|exact zAi rfl rfl|exact zAh rfl rfl|(apply w1;exact rfl;exact rfl)|(apply gD;exact rfl;exact rfl;(intro hb);rotate_left;(intro hb);rotate_right)|(apply g1;exact rfl;exact rfl;(intro hb);rotate_left;(intro hb);rotate_right)|(apply zAK;exact rfl)|(apply zAQ;exact rfl)|apply zAI|apply zAM|apply en_r|apply eb_r|apply zAJ|(apply res1;exact rfl)
        all_goals simp [*]
      | [],hkn,_,_,_=>simp at hkn;omega
      | [_],hkn,_,_,_=>simp at hkn;omega
      | _ :: _ :: _ :: _,hkn,_,_,_=>simp at hkn;omega
    · clear ih hw h
      have hv : Tr.val (.mk x ks) = decide (1 ≤ x.kind ∧ x.kind ≤ 5):=by
        cases ks <;> simp [Tr.val,hk]
      rw [hv]
      clear hv
      have hc : x.kind = 1 ∨ x.kind = 2 ∨ x.kind = 3 ∨ x.kind = 4 ∨ x.kind = 5 ∨ (x.kind ≠ 1 ∧ x.kind ≠ 2 ∧ x.kind ≠ 3 ∧ x.kind ≠ 4 ∧ x.kind ≠ 5):=by omega
      rcases hc with hc | hc | hc | hc | hc | ⟨h1,h2,h3,h4,h5⟩
      all_goals skip
      repeat' first | apply en_n|apply zAH|apply zAB|apply zAF|apply w0|(apply zBD;exact rfl;exact rfl;first|assumption|omega)|(apply zA9;exact rfl;exact rfl;first|assumption|omega)|(apply aJ (hd:=rfl);(first|exact zAk rfl|exact Co_bb rfl rfl rfl|exact Co_nn rfl);exact rfl;(with_reducible exact zAW);assumption;omega;exact fun _=>rfl)|apply ay (hd:=rfl)|exact zAE rfl|exact zAC rfl|(apply zAy;exact rfl;(with_reducible exact fn_0))|(apply zAg;exact rfl;(with_reducible exact zAe))|(apply zAK;exact rfl)|(apply zAQ;exact rfl)|apply zAI|apply zAP|apply zAM|apply en_r|apply eb_n|apply eb_r|apply zAJ|(apply res1;exact rfl)
      all_goals (refine zDB ?_;simp;omega)
set_option maxHeartbeats 2000000 in
theorem zKp : ∀ (m : Nat) (T : Tr),T.sz ≤ m → T.sz ≤ 4000 → T.wf → (∀ n ∈ T.fl,zBT n = true) → zAj Tryz.prog 22 [zAc T.fl] (.tup [zFr (zBl T).1,zAc (zBl T).2])
  | 0,T,h,_,_,_=>by have:=zBS T;omega
  | m + 1,.mk x ks,h,hL,hw,hr=>by
    have hx:=(At.top hw).here
    have hfl : 0 < (Tr.mk x ks).fl.length:=(List.getElem?_eq_some_iff.1 hx).1
    refine zAd Tryz.func22 rfl Tryz.ntmps22 Tryz.results22 rfl ?_
    intro wb St0
    by_cases ht : x.text = arrT
    · obtain ⟨a,b,rfl⟩:=zKK hr hw ht
      rw [zDy ht]
      have hat:=At.top hw
      have hk0:=hat.kids_get (i:=0) (by simp)
      have hk1:=hat.kids_get (i:=1) (by simp)
      have ha:=hat.kid (i:=0) (k:=a) rfl
      have hb9:=hat.kid (i:=1) (k:=b) rfl
      have hLL : (Tr.mk x [a,b]).fl.length ≤ 2000000:=by rw [Tr.fl_len];omega
      have hkid:=zEt (Tr.mk x [a,b]).fl 0 hLL
      have ea : ¬ endF (Tr.mk x [a,b]).fl ((kidAt 0 [a,b] 0 : Nat) : Int) < 0:=by rw [ha.endF];omega
      have eb : ¬ endF (Tr.mk x [a,b]).fl ((kidAt 0 [a,b] 1 : Nat) : Int) < 0:=by rw [hb9.endF];omega
      have hsa:=zPI _ _ hLL ea
      have hsb:=zPI _ _ hLL eb
      rw [ha.sub] at hsa
      rw [hb9.sub] at hsb
      rw [Tr.sz,szL,szL,szL] at h hL
      have hw2 : b.wf:=(zCW.1 (by rw [Tr.wf] at hw;exact hw.2)) b (by simp)
      have hr2:=(zHo hr).2 b (by simp)
      have ih:=zKp m b (by omega) (by omega) hw2 hr2
      have hpl:=(zFd _ b (Nat.le_refl _)).1
      have hap : (zBl b).1.length ≤ 4000:=by omega
      clear hr2 hw2 eb ea ha hb9 hat hw hr h
      generalize (Tr.mk x [a,b]).fl = t at *
      generalize zBX t 0 = KK at *
      generalize kidAt 0 [a,b] 0 = p0 at *
      generalize kidAt 0 [a,b] 1 = p1 at *
      generalize (zBl b).1 = A at *
      generalize (zBl b).2 = to' at *
      generalize b.fl = bf at *
      generalize a.fl = af at *
      dsimp only
      rw [show arrT = [45,62] from rfl] at ht
      skip
      repeat' first | apply en_n|apply zAH|apply zAB|apply zAF|apply w0|(apply zTp;exact rfl;exact rfl;assumption)|(apply zU2 (hd:=rfl) (hro:=rfl);(with_reducible exact zD1);(with_reducible exact zCS);(with_reducible exact zHb);exact rfl;exact rfl;exact zAX rfl zAG;exact rfl)|(apply aApp (id:=0) (hd:=rfl) (hro:=rfl);exact rfl;exact rfl;(first|exact zAk rfl|exact Co_bb rfl rfl rfl|exact Co_nn rfl);(first|exact rfl|exact (by simp));exact rfl;(with_reducible exact zD1);(with_reducible exact zCS);(with_reducible exact zMf);(with_reducible exact zLg);(first|exact zCF (fun _=>rfl)|exact zCE rfl))|(refine zAV zEw hkid (zAX rfl (zAX rfl zAG)))|(refine zAV zPo hsa (zAX rfl (zAX rfl zAG)))|(refine zAV zPo hsb (zAX rfl (zAX rfl zAG)))|(refine zAV zLD ih (zAX rfl zAG))|(apply aJ (hd:=rfl);(first|exact zAk rfl|exact Co_bb rfl rfl rfl|exact Co_nn rfl);exact rfl;(with_reducible first|exact zAW|exact zA7);assumption;omega;exact fun _=>rfl)|apply ay (hd:=rfl)|exact zAE rfl|exact zAC rfl|(apply zAy;exact rfl;(with_reducible exact fn_1))|(apply zAg;exact rfl;(with_reducible first|exact zAs|exact zAv))|exact zBQ rfl rfl|exact zAb rfl|exact zAm rfl|(apply zAQ;exact rfl)|apply zAP|apply zAM|apply zAJ
      all_goals first | omega | skip
      · simp only [List.length_map,List.length_cons,List.length_nil];omega
      · refine zS8 rfl rfl ?_ rfl rfl rfl
        simp;omega
    · rw [zEa ht]
      dsimp only
      generalize (Tr.mk x ks).fl = t at *
      rw [show arrT = [45,62] from rfl] at ht
      skip
      repeat' first | apply en_n|apply zAH|apply zAB|apply zAF|apply w0|(apply zTo;exact rfl;exact rfl;assumption)|(apply aJ (hd:=rfl);(first|exact zAk rfl|exact Co_bb rfl rfl rfl|exact Co_nn rfl);exact rfl;(with_reducible exact zAW);assumption;omega;exact fun _=>rfl)|apply ay (hd:=rfl)|exact zAE rfl|exact zAC rfl|(apply zAy;exact rfl;(with_reducible exact fn_1))|(apply zAg;exact rfl;(with_reducible exact zAv))|exact zAb rfl|(apply zAK;exact rfl)|apply zAM|apply en_r|apply zAJ|(apply zL7;exact rfl;exact rfl)
      all_goals rfl
end Go.Proofs.YtblomnkamngnbaaGreatDoor
