/- Texts of this claim, merged: SynB, RefA, RefB1, RefB2, RefB3, RefB. -/
import Derived.Test.YtblomnkamngnbaaGreatDoorMAH
import Derived.Test.YtblomnkamngnbaaGreatDoorMAI
import Derived.Test.YtblomnkamngnbaaGreatDoorMAS
namespace Go.Proofs.YtblomnkamngnbaaGreatDoor
open Go.Sx
attribute [local irreducible] zAO Program.underlying Ylds zA3 alex zBY zBN awp zAm zBT zBe zAx zBA zBP zA2 zBR zBX zBa zBq zBI
theorem zVG {L : List Nd} {n : Nat} {x : Nd} {ks : List Tr} (h : At L n (.mk x ks)) (h8 : x.kind = 8) (hc : cntK x.kind x.kids = true) : ∃ y,L[n + 1]? = some y ∧ y.kind = Tr.kind1 (.mk x ks):=by
  rw [cntK,if_neg (by omega),if_pos (by omega)] at hc
  have hk:=h.kidn
  have hc:=of_decide_eq_true hc
  match ks,hk with
  | [],hk=>simp at hk;omega
  | k :: r,_ =>
    have h1:=(h.kid (i:=0) (k:=k) rfl).hd
    rw [zCM] at h1
    exact ⟨k.hd,h1,rfl⟩
def genE (a b : Bool) (nm : Option Bool) (kp r pat : Bool) (x : Nd) (bad : Prop) [Decidable bad] : Int :=
  if kp ≠ pat ∨ r = false then 61
  else if (a = true ∧ W x.num ≠ x.num) ∨ (a = false ∧ x.num ≠ 0) then 61
  else if (b = true ∧ 200 < x.text.length) ∨ (b = false ∧ nm = none ∧ x.text ≠ []) then 61
  else if bad then 61
  else if nm = some false then 62 else 0
theorem zUb (x : Nd) (kx : Int) (pat : Bool) (hok : okK x.kind = true) :
    zE7 x kx pat = genE (numK x.kind) (decide (x.kind = 2)) (if namK x.kind = true then some (zD1 x.text) else if x.kind = 4 ∨ x.kind = 24 then some (conF x.text) else none) (patK x.kind) (cntK x.kind x.kids) pat x (x.kind = 8 ∧ kx ≠ 5):=by
  obtain ⟨kind,text,num,kids⟩:=x
  dsimp only at *
  generalize hc : cntK kind kids = c
  unfold zE7 genE
  dsimp only
  rw [hc,hok]
  clear hc
  generalize zD1 text = a1
  generalize conF text = a2
  rcases zLN hok with rfl | rfl | rfl | rfl | rfl | rfl | rfl | rfl | rfl | rfl | rfl | rfl | rfl | rfl | rfl | rfl <;> simp [numK,namK,patK]
set_option maxHeartbeats 8000000 in
theorem zQG (L : List Nd) (n : Nat) (x y : Nd) (kx : Int) (r nr : Bool) (pat : Bool) (kd nm : D) (hx : L[n]? = some x) (hy : x.kind = 8 → r = true → L[n + 1]? = some y ∧ y.kind = kx) (hlen : n < 2000000)
    (hf : zAm Tryz.prog 126 [i64 x.kind] (.agg [bl false,bl false,nm,kd,bl true])) (hkd : VCall Tryz.prog kd [i64 x.kids] (bl r)) (hnm : VCall Tryz.prog nm [str x.text] (bl nr)) :
    zAm Tryz.prog 97 [zAc L,i64 (n : Int),bl pat] (i64 (genE false false (some nr) (patK x.kind) r pat x (x.kind = 8 ∧ kx ≠ 5))):=by
  have hp:=zFy x.kind
  have hdf:=hnm.fn
  by_cases hc : patK x.kind = pat ∧ r = true
  · obtain ⟨hc,hr⟩:=hc
    subst hr
    rw [hc] at hp ⊢
    have hl2 : x.kind = 8 → n + 1 < L.length:=fun h8=>(List.getElem?_eq_some_iff.1 (hy h8 rfl).1).1
    have hv2 : ∀ v,x.kind = 8 → L[((n : Int) + 1).toNat]? = some v → v.kind = kx:=fun v h8 hv=>by
      obtain ⟨h1,h2⟩:=hy h8 rfl
      rw [show ((n : Int) + 1).toNat = n + 1 by omega,h1] at hv
      injection hv with hv;rw [← hv];exact h2
    cases pat
    all_goals
      refine zAd Tryz.func97 rfl Tryz.ntmps97 Tryz.results97 rfl ?_
      intro wb St0
      repeat' first | apply en_n|apply zAH|apply zAC|apply zAF|apply w0|(apply k1u (hd:=rfl);exact rfl;exact rfl)|(refine zAX zFk hf (zAZ rfl zAG))|(refine zAX zDZ hp (zAZ rfl zAG))|(refine zI6 hkd rfl (zAZ rfl zAG))|(refine zI6 hnm rfl (zAZ rfl zAG))|(refine zT1 rfl hdf rfl fy_s)|(refine zRa rfl hdf rfl fy_s)|(apply zOL;exact rfl;exact rfl;with_reducible exact zPd)|(apply aJ (hd:=rfl);(first|exact zAn rfl|exact Co_bb rfl rfl rfl|exact Co_nn rfl);exact rfl;(with_reducible exact zAa);assumption;omega;exact fun _=>rfl)|(apply aI (hd:=rfl);(first|exact zAn rfl|exact Co_bb rfl rfl rfl|exact Co_nn rfl);exact rfl;(with_reducible exact zAa);exact fun _=>rfl;rotate_left;intro v hv;rotate_right)|(apply zBE (hd:=rfl) (hro:=rfl);(with_reducible first|exact zDU|exact zAp))|apply ay (hd:=rfl)|exact zAE rfl|exact zAD rfl|(apply zA5;exact rfl;(with_reducible exact fn_0))|(apply zAi;exact rfl;(with_reducible exact zAk))|(apply zAf;exact rfl;(with_reducible exact zAb);exact rfl)|exact zD7 rfl rfl|exact zJD rfl rfl|(apply zBG;exact rfl;exact rfl)|exact zCS rfl|exact zAq rfl rfl|exact zAo rfl rfl|(apply zAS;exact rfl;(with_reducible first|exact ff_0|exact ff_1|exact ff_2|exact ff_3|exact ff_4|exact fn_0|exact fn_1|exact fn_2|exact fn_3))|(apply zAV;exact rfl;(with_reducible first|exact zTW|exact zNQ|exact zAz|exact zAk|exact zB4|exact zA4|exact zGb);exact rfl;exact rfl)|(apply w1;exact rfl;exact rfl)|(apply k1 (hd:=rfl);exact rfl;exact rfl)|(apply gD;exact rfl;exact rfl;(intro hb);rotate_left;(intro hb);rotate_right)|(refine w0' ?_)|(apply zA0;exact rfl;exact rfl;exact rfl;(with_reducible first|exact zE3|exact zAb);exact rfl;exact rfl;exact rfl;exact rfl)|(apply zA1;exact rfl;(intro hb);rotate_left;(intro hb);rotate_right)|(apply zAU;exact rfl)|(apply zDB;exact rfl;(intro hb);rotate_left;(intro hb);rotate_right)|apply zAJ|apply zAT|apply zAN|refine zBQ (by kernel_rfl) (by kernel_rfl) ?_|apply en_r|apply eb_n|apply eb_r|apply zAP|(apply res1;exact rfl)
    all_goals try omega
    all_goals try (have:=hl2 ‹_›;omega)
    all_goals try refine zDm ?_
    all_goals first
      | (simp_all [genE];done)
      | (rename_i v hv hb'
         have:=hv2 v (by assumption) hv
         simp_all [genE];done)
      | skip
    all_goals skip
  · have hz : genE false false (some nr) (patK x.kind) r pat x (x.kind = 8 ∧ kx ≠ 5) = 61:=by
      rw [genE,if_pos]
      by_cases c : patK x.kind = pat
      · exact .inr (by cases r with
          | false=>rfl
          | true=>exact absurd ⟨c,rfl⟩ hc)
      · exact .inl c
    rw [hz]
    have hpp:=hp
    generalize patK x.kind = kp at *
    cases kp <;> cases pat <;> cases r
    all_goals first
      | exact absurd ⟨rfl,rfl⟩ hc
      | skip
    all_goals
      refine zAd Tryz.func97 rfl Tryz.ntmps97 Tryz.results97 rfl ?_
      intro wb St0
      repeat' first | apply en_n|apply zAH|apply zAC|apply zAF|apply w0|(apply k0u (hd:=rfl);exact rfl;exact rfl)|(refine zAX zFk hf (zAZ rfl zAG))|(refine zAX zDZ hp (zAZ rfl zAG))|(refine zI6 hkd rfl (zAZ rfl zAG))|(apply zOL;exact rfl;exact rfl;with_reducible exact zPd)|(apply aJ (hd:=rfl);(first|exact zAn rfl|exact Co_bb rfl rfl rfl|exact Co_nn rfl);exact rfl;(with_reducible exact zAa);assumption;omega;exact fun _=>rfl)|(apply zBE (hd:=rfl) (hro:=rfl);(with_reducible first|exact zDU|exact zAp))|apply ay (hd:=rfl)|exact zAE rfl|exact zAD rfl|(apply zAf;exact rfl;(with_reducible exact zAb);exact rfl)|exact zCS rfl|exact zAq rfl rfl|exact zAo rfl rfl|(apply zAS;exact rfl;(with_reducible first|exact ff_3|exact ff_4|exact fn_0|exact fn_3))|(apply zAV;exact rfl;(with_reducible first|exact zNQ|exact zAz|exact zAk|exact zGb);exact rfl;exact rfl)|(apply w1;exact rfl;exact rfl)|(refine w0' ?_)|(apply zA0;exact rfl;exact rfl;exact rfl;(with_reducible first|exact zE3|exact zAb);exact rfl;exact rfl;exact rfl;exact rfl)|(apply zAQ;exact rfl)|apply zAJ|apply zAN|apply en_r|apply eb_r|apply zAP|(apply res1;exact rfl)
    all_goals rfl
set_option maxHeartbeats 8000000 in
theorem zSW (L : List Nd) (n : Nat) (x : Nd) (a b r : Bool) (pat : Bool) (kd : D) (hx : L[n]? = some x) (h8 : x.kind ≠ 8) (hab : a = false ∨ b = false)
    (hf : zAm Tryz.prog 126 [i64 x.kind] (.agg [bl a,bl b,.val .nilFunc,kd,bl true])) (hkd : VCall Tryz.prog kd [i64 x.kids] (bl r)) :
    zAm Tryz.prog 97 [zAc L,i64 (n : Int),bl pat] (i64 (genE a b none (patK x.kind) r pat x False)):=by
  have hp:=zFy x.kind
  have hW:=zNM x.num
  have hdf : dfn (.val .nilFunc) = some false:=rfl
  by_cases hc : patK x.kind = pat ∧ r = true
  · obtain ⟨hc,hr⟩:=hc
    subst hr
    rw [hc] at hp ⊢
    cases pat <;> cases a <;> cases b
    all_goals first
      | (exfalso;rcases hab with h | h <;> cases h;done)
      | skip
    all_goals
      refine zAd Tryz.func97 rfl Tryz.ntmps97 Tryz.results97 rfl ?_
      intro wb St0
      repeat' first | apply en_n|apply zAH|apply zAC|apply zAF|apply w0|(apply k1u (hd:=rfl);exact rfl;exact rfl)|(apply zBV;exact rfl;exact rfl;first|assumption|omega)|(apply zBW;exact rfl;exact rfl;first|assumption|omega)|(apply zCT;exact rfl;exact rfl;first|assumption|omega)|(apply zC2;exact rfl;with_reducible exact ustr)|exact zJn rfl rfl|(refine zAX zFk hf (zAZ rfl zAG))|(refine zAX zDZ hp (zAZ rfl zAG))|(refine zI6 hkd rfl (zAZ rfl zAG))|(refine zAX zNy hW (zAZ rfl zAG))|(refine zT1 rfl hdf rfl fy_s)|(refine zRa rfl hdf rfl fy_s)|(apply zOL;exact rfl;exact rfl;with_reducible exact zPd)|(apply aJ (hd:=rfl);(first|exact zAn rfl|exact Co_bb rfl rfl rfl|exact Co_nn rfl);exact rfl;(with_reducible exact zAa);assumption;omega;exact fun _=>rfl)|(apply aI (hd:=rfl);(first|exact zAn rfl|exact Co_bb rfl rfl rfl|exact Co_nn rfl);exact rfl;(with_reducible exact zAa);exact fun _=>rfl;rotate_left;intro v hv;rotate_right)|(apply zBE (hd:=rfl) (hro:=rfl);(with_reducible first|exact zDU|exact zAp))|apply ay (hd:=rfl)|exact zAE rfl|exact zAD rfl|(apply zA5;exact rfl;(with_reducible exact fn_0))|(apply zAi;exact rfl;(with_reducible exact zAk))|(apply zAf;exact rfl;(with_reducible exact zAb);exact rfl)|exact zHp rfl rfl|exact zJD rfl rfl|(apply zBG;exact rfl;exact rfl)|exact zCS rfl|exact zAq rfl rfl|exact zAo rfl rfl|(apply zAS;exact rfl;(with_reducible first|exact ff_0|exact ff_1|exact ff_2|exact ff_3|exact ff_4|exact fn_0|exact fn_1|exact fn_2|exact fn_3))|(apply zAV;exact rfl;(with_reducible first|exact zTW|exact zNQ|exact zAz|exact zAk|exact zB4|exact zA4|exact zGb);exact rfl;exact rfl)|(apply w1;exact rfl;exact rfl)|(apply k1 (hd:=rfl);exact rfl;exact rfl)|(refine w0' ?_)|(apply zA0;exact rfl;exact rfl;exact rfl;(with_reducible first|exact zE3|exact zAb);exact rfl;exact rfl;exact rfl;exact rfl)|(apply zA1;exact rfl;(intro hb);rotate_left;(intro hb);rotate_right)|(apply zAQ;exact rfl)|(apply zAU;exact rfl)|apply zAJ|apply zAT|apply zAN|refine zBQ (by kernel_rfl) (by kernel_rfl) ?_|apply en_r|apply eb_n|apply eb_r|apply zAP|(apply res1;exact rfl)
    all_goals try (exfalso;omega)
    all_goals refine zDm ?_
    all_goals first
      | (simp_all [genE];done)
      | (simp_all [genE];omega)
      | skip
  · have hz : genE a b none (patK x.kind) r pat x False = 61:=by
      rw [genE,if_pos]
      by_cases c : patK x.kind = pat
      · exact .inr (by cases r with
          | false=>rfl
          | true=>exact absurd ⟨c,rfl⟩ hc)
      · exact .inl c
    rw [hz]
    have hpp:=hp
    generalize patK x.kind = kp at *
    cases kp <;> cases pat <;> cases r
    all_goals first
      | exact absurd ⟨rfl,rfl⟩ hc
      | skip
    all_goals
      refine zAd Tryz.func97 rfl Tryz.ntmps97 Tryz.results97 rfl ?_
      intro wb St0
      repeat' first | apply en_n|apply zAH|apply zAC|apply zAF|apply w0|(apply k0u (hd:=rfl);exact rfl;exact rfl)|(refine zAX zFk hf (zAZ rfl zAG))|(refine zAX zDZ hp (zAZ rfl zAG))|(refine zI6 hkd rfl (zAZ rfl zAG))|(apply zOL;exact rfl;exact rfl;with_reducible exact zPd)|(apply aJ (hd:=rfl);(first|exact zAn rfl|exact Co_bb rfl rfl rfl|exact Co_nn rfl);exact rfl;(with_reducible exact zAa);assumption;omega;exact fun _=>rfl)|(apply zBE (hd:=rfl) (hro:=rfl);(with_reducible first|exact zDU|exact zAp))|apply ay (hd:=rfl)|exact zAE rfl|exact zAD rfl|(apply zAf;exact rfl;(with_reducible exact zAb);exact rfl)|exact zCS rfl|exact zAq rfl rfl|exact zAo rfl rfl|(apply zAS;exact rfl;(with_reducible first|exact ff_3|exact ff_4|exact fn_0|exact fn_3))|(apply zAV;exact rfl;(with_reducible first|exact zNQ|exact zAz|exact zAk|exact zGb);exact rfl;exact rfl)|(apply w1;exact rfl;exact rfl)|(refine w0' ?_)|(apply zA0;exact rfl;exact rfl;exact rfl;(with_reducible first|exact zE3|exact zAb);exact rfl;exact rfl;exact rfl;exact rfl)|(apply zAQ;exact rfl)|apply zAJ|apply zAN|apply en_r|apply eb_r|apply zAP|(apply res1;exact rfl)
    all_goals rfl
theorem zUM (L : List Nd) (n : Nat) (x : Nd) (ks : List Tr) (h : At L n (.mk x ks)) (pat : Bool) (hL : L.length ≤ 2000000) :
    zAm Tryz.prog 97 [zAc L,i64 (n : Int),bl pat] (i64 (zE7 x (Tr.kind1 (.mk x ks)) pat)):=by
  have hx:=h.here
  have hlen:=h.len
  have hsz:=zBO (.mk x ks)
  have hf:=zQp x.kind
  cases hok : okK x.kind with
  | false =>
    have hp:=zFy x.kind
    rw [zSv,if_neg (by rw [hok];decide)] at hf
    have e : zE7 x (Tr.kind1 (.mk x ks)) pat = 61:=by rw [zE7,if_pos (.inl hok)]
    rw [e]
    refine zAd Tryz.func97 rfl Tryz.ntmps97 Tryz.results97 rfl ?_
    intro wb St0
    repeat' first | apply en_n|apply zAH|apply zAC|apply zAF|apply w0|(apply k0u (hd:=rfl);exact rfl;exact rfl)|(refine zAX zFk hf (zAZ rfl zAG))|(apply aJ (hd:=rfl);(first|exact zAn rfl|exact Co_bb rfl rfl rfl|exact Co_nn rfl);exact rfl;(with_reducible exact zAa);assumption;omega;exact fun _=>rfl)|(apply zBE (hd:=rfl) (hro:=rfl);(with_reducible first|exact zDU|exact zAp))|apply ay (hd:=rfl)|exact zAE rfl|exact zAD rfl|(apply zAf;exact rfl;(with_reducible exact zAb);exact rfl)|exact zCS rfl|exact zAq rfl rfl|(apply zAS;exact rfl;(with_reducible first|exact ff_4|exact fn_0))|(apply zAV;exact rfl;(with_reducible first|exact zAk|exact zGb);exact rfl;exact rfl)|(refine w0' ?_)|(apply zA0;exact rfl;exact rfl;exact rfl;(with_reducible first|exact zE3|exact zAb);exact rfl;exact rfl;exact rfl;exact rfl)|(apply zAQ;exact rfl)|apply zAJ|apply zAN|apply en_r|apply eb_r|apply zAP|(apply res1;exact rfl)
    all_goals rfl
  | true =>
    have hkd:=zQQ x.kind x.kids hok
    rw [zSv,if_pos hok] at hf
    rw [zUb x _ pat hok]
    by_cases hn : namK x.kind = true
    · have ha : numK x.kind = false:=by
        have:=of_decide_eq_true hn;rw [numK,decide_eq_false_iff_not];omega
      have hb : decide (x.kind = 2) = false:=by
        have:=of_decide_eq_true hn;rw [decide_eq_false_iff_not];omega
      rw [if_pos hn,ha,hb]
      rw [ha,hb,zNq,if_pos hn] at hf
      obtain ⟨y,hy⟩ : ∃ y : Nd,(x.kind = 8 → cntK x.kind x.kids = true → L[n + 1]? = some y ∧ y.kind = Tr.kind1 (.mk x ks)):=by
        by_cases hc : x.kind = 8 ∧ cntK x.kind x.kids = true
        · obtain ⟨y,hy⟩:=zVG h hc.1 hc.2
          exact ⟨y,fun _ _=>hy⟩
        · exact ⟨x,fun a b=>absurd ⟨a,b⟩ hc⟩
      exact zQG L n x y _ _ _ pat _ _ hx hy (by omega) hf hkd ⟨_,_,rfl,zKP,zNb x.text⟩
    · by_cases hn2 : x.kind = 4 ∨ x.kind = 24
      · have ha : numK x.kind = false:=by rw [numK,decide_eq_false_iff_not];omega
        have hb : decide (x.kind = 2) = false:=by rw [decide_eq_false_iff_not];omega
        rw [if_neg hn,if_pos hn2,ha,hb]
        rw [ha,hb,zNq,if_neg hn,if_pos hn2] at hf
        exact zQG L n x x _ _ _ pat _ _ hx (fun h8=>by omega) (by omega) hf hkd ⟨_,_,rfl,zKQ,zMd x.text⟩
      · have h8 : x.kind ≠ 8:=fun c=>hn (by rw [namK,decide_eq_true_eq];omega)
        rw [if_neg hn,if_neg hn2]
        rw [zNq,if_neg hn,if_neg hn2] at hf
        have e : genE (numK x.kind) (decide (x.kind = 2)) none (patK x.kind) (cntK x.kind x.kids) pat x (x.kind = 8 ∧ Tr.kind1 (.mk x ks) ≠ 5) = genE (numK x.kind) (decide (x.kind = 2)) none (patK x.kind) (cntK x.kind x.kids) pat x False:=by
          simp [genE,h8]
        rw [e]
        refine zSW L n x _ _ _ pat _ hx h8 ?_ hf hkd
        by_cases c : x.kind = 2
        · exact .inl (by rw [numK,decide_eq_false_iff_not];omega)
        · exact .inr (decide_eq_false c)
end Go.Proofs.YtblomnkamngnbaaGreatDoor
namespace Go.Proofs.YtblomnkamngnbaaGreatDoor
open Go.Sx Go.RowKit
theorem zQe : zAO Tryz.prog 20 = true:=by kernel_rfl
attribute [local irreducible] zAO Program.underlying Ylds zA3 alex zBY zBN awp zAm zBT zBe zAx zBA zBP zA2 zBR zBX zBa zBq zBI
theorem zOk (s : List UInt8) (hs : s.length ≤ 9223372036854775807) : zAm Tryz.prog 20 [str s] (bl (zD1 s)):=by
  refine zAd Tryz.func20 rfl Tryz.ntmps20 Tryz.results20 rfl ?_
  intro wb St0
  repeat' first | apply en_n|apply zAH|apply zAC|apply zAF|apply w0|(apply zBS;exact zMf;exact zNG;exact PD_d rfl rfl (PD_d rfl rfl zCF);exact rfl)|(refine zAX zJW (zJK ⟨1,s,0,0⟩ hs) (zAZ rfl zAG))|(refine zAX zJW (zJK ⟨5,s,0,0⟩ hs) (zAZ rfl zAG))|apply ay (hd:=rfl)|exact zAE rfl|exact zAD rfl|exact zAq rfl rfl|exact zAo rfl rfl|(apply w1;exact rfl;exact rfl)|(apply k0 (hd:=rfl);exact rfl;exact rfl)|(apply g1;exact rfl;exact rfl;(intro hb);rotate_left;(intro hb);rotate_right)|apply zAN|apply zAP|(apply res1;exact rfl)
  · rw [zD1,hb];rfl
  · rw [zD1,hb];rfl
end Go.Proofs.YtblomnkamngnbaaGreatDoor
namespace Go.Proofs.YtblomnkamngnbaaGreatDoor
open Go.Sx
attribute [local irreducible] zAO Program.underlying Ylds zA3 alex zBY zBN awp zAm zBT zBe zAx zBA zBP zA2 zBR zBX zBa zBq zBI
end Go.Proofs.YtblomnkamngnbaaGreatDoor
namespace Go.Proofs.YtblomnkamngnbaaGreatDoor
open Go.Sx
attribute [local irreducible] zAO Program.underlying Ylds zA3 alex zBY zBN awp zAm zBT zBe zAx zBA zBP zA2 zBR zBX zBa zBq zBI
end Go.Proofs.YtblomnkamngnbaaGreatDoor
namespace Go.Proofs.YtblomnkamngnbaaGreatDoor
open Go.Sx
attribute [local irreducible] zAO Program.underlying Ylds zA3 alex zBY zBN awp zAm zBT zBe zAx zBA zBP zA2 zBR zBX zBa zBq zBI
end Go.Proofs.YtblomnkamngnbaaGreatDoor
namespace Go.Proofs.YtblomnkamngnbaaGreatDoor
open Go.Sx
attribute [local irreducible] zAO Program.underlying Ylds zA3 alex zBY zBN awp zAm zBT zBe zAx zBA zBP zA2 zBR zBX zBa zBq zBI
end Go.Proofs.YtblomnkamngnbaaGreatDoor
