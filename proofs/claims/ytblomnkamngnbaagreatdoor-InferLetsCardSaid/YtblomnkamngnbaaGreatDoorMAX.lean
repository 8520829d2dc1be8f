/- Texts of this claim, merged: SynE. -/
import Derived.Test.YtblomnkamngnbaaGreatDoorMAV
import Derived.Test.YtblomnkamngnbaaGreatDoorMAW
namespace Go.Proofs.YtblomnkamngnbaaGreatDoor
open Go.Sx
theorem zKV : zAO Tryz.prog 94 = true:=by kernel_rfl
attribute [local irreducible] zAO Program.underlying Ylds zA3 alex zBY zBN awp zAm zBT zBe zAx zBA zBP zA2 zBR zBX zBa zBq zBI VCall
def chkT (t : Tr) (pat : Bool) : Int :=
  if 4000 < t.sz ∨ 100 < zEN t.fl then 60 else if t.werr pat ≠ 0 then t.werr pat else if t.tw then 63 else 0
structure Ats (L : List Nd) (n : Nat) (ts : List Tr) : Prop where
  drop : L.drop n = flL ts
  wf : wfL ts
theorem Ats.head {L : List Nd} {n : Nat} {t : Tr} {r : List Tr} (h : Ats L n (t :: r)) : At L n t:=by
  have hw:=h.wf
  rw [wfL] at hw
  exact ⟨⟨flL r,by rw [h.drop,flL]⟩,hw.1⟩
theorem Ats.over {L : List Nd} {n : Nat} {t : Tr} {r : List Tr} (h : Ats L n (t :: r)) : Ats L (n + t.sz) r:=by
  have hw:=h.wf
  rw [wfL] at hw
  exact ⟨by rw [← List.drop_drop,h.drop,flL, ← Tr.fl_len,List.drop_left],hw.2⟩
theorem zJe : ∀ (a b : List Tr),flL (a ++ b) = flL a ++ flL b
  | [],b=>by rw [List.nil_append,flL,List.nil_append]
  | t :: a,b=>by rw [List.cons_append,flL,flL,zJe a b,List.append_assoc]
theorem zOY {a b : List Tr} : wfL (a ++ b) ↔ wfL a ∧ wfL b:=by
  rw [zCK,zCK,zCK];simp only [List.mem_append]
  exact ⟨fun h=>⟨fun k hk=>h k (.inl hk),fun k hk=>h k (.inr hk)⟩,fun ⟨h1,h2⟩ k hk=>hk.elim (h1 k) (h2 k)⟩
theorem Ats.into {L : List Nd} {n : Nat} {x : Nd} {ks r : List Tr} (h : Ats L n (.mk x ks :: r)) : Ats L (n + 1) (ks ++ r):=by
  have hw:=h.wf
  rw [wfL,Tr.wf] at hw
  refine ⟨?_,zOY.2 ⟨hw.1.2,hw.2⟩⟩
  rw [← List.drop_drop,h.drop,flL,Tr.fl,zJe];rfl
theorem zJF : ∀ (a b : List Tr),twL (a ++ b) = (twL a || twL b)
  | [],b=>by rw [List.nil_append,twL,Bool.false_or]
  | t :: a,b=>by rw [List.cons_append,twL,twL,zJF a b,Bool.or_assoc]
theorem zNK {t : Tr} (h : t.wf) : zCH t.fl = true:=zD8.2 ⟨t,rfl,h⟩
theorem Ats.none {L : List Nd} {n : Nat} (h : Ats L n []) : L.length ≤ n:=by
  have:=congrArg List.length h.drop
  rw [List.length_drop,flL,List.length_nil] at this;omega
theorem Ats.lt {L : List Nd} {n : Nat} {t : Tr} {r : List Tr} (h : Ats L n (t :: r)) : n < L.length:=by
  have:=h.head.len;have:=zBO t;omega
set_option maxHeartbeats 8000000 in
theorem zPv (t : Tr) (hw : t.wf) (pat : Bool) (hL : t.fl.length ≤ 1000000) : zAm Tryz.prog 56 [zAc t.fl,bl pat] (i64 (chkT t pat)):=by
  have hsz:=Tr.fl_len t
  have hW:=zH6 t.fl (by omega)
  rw [zNK hw] at hW
  have hD:=zU6 t.fl (by omega)
  have hK:=zPa t.fl (by omega) t.sz 0 t pat (Nat.le_refl _) (.top hw)
  refine zAd Tryz.func56 rfl Tryz.ntmps56 Tryz.results56 rfl ?_
  intro wb St0
  by_cases h1 : 4000 < t.sz ∨ 100 < zEN t.fl
  · rw [chkT,if_pos h1]
    by_cases h3 : 4000 < t.sz
    · skip
      repeat' first | apply en_n|apply zAH|apply zAC|apply zAF|apply w0|(apply k0u (hd:=rfl);exact rfl;exact rfl)|(apply zE0;exact rfl;exact rfl;first|assumption|omega)|(apply aBox (hd:=rfl) (hro:=rfl);exact rfl;exact rfl)|apply ay (hd:=rfl)|exact zAE rfl|exact zAD rfl|(apply zAr;exact rfl;(with_reducible exact zA7))|exact zAq rfl rfl|(apply zAV;exact rfl;(with_reducible exact zAg);exact rfl;exact rfl)|(apply zAQ;exact rfl)|apply zAN|apply en_r|apply zAP|(apply res1;exact rfl)
      all_goals rfl
    · have h4 : 100 < zEN t.fl:=by omega
      skip
      repeat' first | apply en_n|apply zAH|apply zAC|apply zAF|apply w0|(apply zE0;exact rfl;exact rfl;first|assumption|omega)|(apply zDw;exact rfl;exact rfl;first|assumption|omega)|(refine zAX zF8 hW (zAZ rfl zAG))|(refine zAX zKV hD (zAZ rfl zAG))|(apply aBox (hd:=rfl) (hro:=rfl);exact rfl;exact rfl)|apply ay (hd:=rfl)|exact zAE rfl|exact zAD rfl|(apply zAr;exact rfl;(with_reducible exact zA7))|exact zCS rfl|exact zAo rfl rfl|(apply zAV;exact rfl;(with_reducible exact zAg);exact rfl;exact rfl)|(apply w1;exact rfl;exact rfl)|(apply zAQ;exact rfl)|apply zAN|apply en_r|apply zAP|(apply res1;exact rfl)
      all_goals rfl
  · have h3 : ¬ 4000 < t.sz:=fun c=>h1 (.inl c)
    have h4 : ¬ 100 < zEN t.fl:=fun c=>h1 (.inr c)
    by_cases h2 : t.werr pat = 0
    · rw [zOa,if_pos h2] at hK
      rw [chkT,if_neg h1,if_neg (by rw [h2];decide)]
      skip
      repeat' first | apply en_n|apply zAH|apply zAC|apply zAF|apply w0|(apply zDw;exact rfl;exact rfl;first|assumption|omega)|(apply zBm;exact rfl;exact rfl;first|assumption|omega)|(refine zAX zF8 hW (zAZ rfl zAG))|(refine zAX zKV hD (zAZ rfl zAG))|(refine zA6 [0] [] rfl rfl zHx (hK) rfl ?_ rfl (by decide) rfl rfl rfl rfl;(repeat (refine zAI rfl ?_));exact zAM)|(apply aBox (hd:=rfl) (hro:=rfl);exact rfl;exact rfl)|apply ay (hd:=rfl)|exact zAE rfl|exact zAD rfl|(apply zAr;exact rfl;(with_reducible exact zA7))|exact zCS rfl|exact zAo rfl rfl|exact zBM rfl rfl|exact zC4 rfl|(apply zAV;exact rfl;(with_reducible exact zAg);exact rfl;exact rfl)|exact zGV rfl|(apply w1;exact rfl;exact rfl)|(apply zAU;exact rfl)|apply zAJ|apply zAT
      refine zAs (α:=Nat × List Tr) (fun p=>Ats t.fl p.1 p.2 ∧ twL p.2 = t.tw) (fun p=>[(2,.ptr 0 0),(7,.clo 98 [0]),(8,.d (i64 (p.1 : Int)))]) (fun _=>lO t.fl) (fun p=>t.fl.length - p.1) (0,[t])
        ⟨⟨by rw [List.drop_zero,flL,flL,List.append_nil],by rw [wfL];exact ⟨hw,trivial⟩⟩,by rw [twL,twL,Bool.or_false]⟩ (zAL (zAA rfl (zAA rfl (zAA rfl zAW))) (zAB rfl rfl zAK) rfl rfl) ?_
      rintro ⟨n,ts⟩ ⟨hA,hT⟩
      dsimp only at hA hT ⊢
      match ts,hA,hT with
      | [],hA,hT =>
        have hn:=hA.none
        have hli : ¬ (n : Int) < (t.fl.length : Int):=by omega
        rw [twL] at hT
        rw [← hT]
        skip
        repeat' first | apply en_n|apply zAH|apply zAC|apply zAF|apply w0|(apply zCJ;exact rfl;exact rfl;first|assumption|omega)|apply ay (hd:=rfl)|exact zAE rfl|exact zAD rfl|(apply zAr;exact rfl;(with_reducible exact zA7))|(apply zAV;exact rfl;(with_reducible exact zAg);exact rfl;exact rfl)|(apply zAU;exact rfl)|apply zAN|apply zAu|apply en_e|apply eb_e|apply zAP|(apply res1;exact rfl)
        all_goals rfl
      | .mk x ks :: r,hA,hT =>
        have hn:=hA.lt
        have hli : (n : Int) < (t.fl.length : Int):=by omega
        have hx:=hA.head.here
        have hp:=zFy x.kind
        have hE:=zGL t.fl (n : Int) (by omega)
        rw [hA.head.endF] at hE
        have hC:=zOg t.fl n _ hA.head (by omega)
        have hov:=hA.over
        have hin:=hA.into
        rw [twL,Tr.tw] at hT
        have hszp:=zBO (.mk x ks)
        have hle:=hA.head.len
        rw [Tr.fl] at hC
        generalize Tr.sz (.mk x ks) = s at *
        cases hk : patK x.kind with
        | false =>
          rw [hk] at hp
          rw [if_neg (by rw [hk];decide)] at hT
          skip
          repeat' first | apply en_n|apply zAH|apply zAC|apply zAF|apply w0|(apply zBK;exact rfl;exact rfl;first|assumption|omega)|(refine zAX zDZ hp (zAZ rfl zAG))|(apply aJ (hd:=rfl);(first|exact zAn rfl|exact Co_bb rfl rfl rfl|exact Co_nn rfl);exact rfl;(with_reducible exact zAa);assumption;omega;exact fun _=>rfl)|apply ay (hd:=rfl)|exact zAE rfl|exact zAD rfl|(apply zA5;exact rfl;(with_reducible exact fn_0))|(apply zAi;exact rfl;(with_reducible exact zAk))|(apply zAr;exact rfl;(with_reducible exact zA7))|(apply zBG;exact rfl;exact rfl)|exact zCS rfl|(apply zAV;exact rfl;(with_reducible exact zAg);exact rfl;exact rfl)|(apply zAQ;exact rfl)|apply zAJ|apply zAT|apply zAu|apply en_e|apply eb_e
          all_goals try omega
          exact ⟨(n + 1,ks ++ r),⟨hin,by rw [zJF];exact hT⟩,by simp only;omega,zAL (zAA rfl (zAA rfl (zAA rfl zAW))) (zAB rfl rfl zAK) rfl rfl⟩
        | true =>
          rw [hk] at hp
          rw [if_pos hk] at hT
          cases hd : !decide (zBJ (x :: flL ks)).Nodup with
          | true =>
            rw [hd] at hC hT
            rw [← hT]
            skip
            repeat' first | apply en_n|apply zAH|apply zAC|apply zAF|apply w0|(apply zBK;exact rfl;exact rfl;first|assumption|omega)|(refine zAX zDZ hp (zAZ rfl zAG))|exact zA8 rfl|(refine zA6 [0] [0] rfl rfl zJU (hC) rfl ?_ rfl (by decide) rfl rfl rfl rfl;(repeat (refine zAI rfl ?_));exact zAM)|(apply aJ (hd:=rfl);(first|exact zAn rfl|exact Co_bb rfl rfl rfl|exact Co_nn rfl);exact rfl;(with_reducible exact zAa);assumption;omega;exact fun _=>rfl)|apply ay (hd:=rfl)|exact zAE rfl|exact zAD rfl|(apply zA5;exact rfl;(with_reducible exact fn_0))|(apply zAi;exact rfl;(with_reducible exact zAk))|(apply zAr;exact rfl;(with_reducible exact zA7))|exact zCS rfl|(apply zAV;exact rfl;(with_reducible exact zAg);exact rfl;exact rfl)|(apply zAQ;exact rfl)|(apply zAU;exact rfl)|apply zAJ|apply zAT|apply zAN|apply en_r|apply eb_r|apply zAP|(apply res1;exact rfl)
            all_goals try omega
            all_goals rfl
          | false =>
            rw [hd] at hC hT
            skip
            repeat' first | apply en_n|apply zAH|apply zAC|apply zAF|apply w0|(apply zBK;exact rfl;exact rfl;first|assumption|omega)|(refine zAX zDZ hp (zAZ rfl zAG))|exact zA8 rfl|(refine zA6 [0] [0] rfl rfl zJU (hC) rfl ?_ rfl (by decide) rfl rfl rfl rfl;(repeat (refine zAI rfl ?_));exact zAM)|(refine zAX zGH hE (zAZ rfl (zAZ rfl zAG)))|(apply aJ (hd:=rfl);(first|exact zAn rfl|exact Co_bb rfl rfl rfl|exact Co_nn rfl);exact rfl;(with_reducible exact zAa);assumption;omega;exact fun _=>rfl)|apply ay (hd:=rfl)|exact zAE rfl|exact zAD rfl|(apply zA5;exact rfl;(with_reducible exact fn_0))|(apply zAi;exact rfl;(with_reducible exact zAk))|(apply zAr;exact rfl;(with_reducible exact zA7))|(apply zBG;exact rfl;exact rfl)|(apply zJC;exact rfl;exact rfl)|exact zCS rfl|(apply zAV;exact rfl;(with_reducible exact zAg);exact rfl;exact rfl)|(apply zAQ;exact rfl)|(apply zAU;exact rfl)|apply zAJ|apply zAT|apply eb_n
            all_goals try omega
            exact ⟨(n + s,r),⟨hov,by simpa using hT⟩,by simp only;omega,zAL (zAA rfl (zAA rfl (Le_d rfl (by congr 2;omega) zAW))) (zAB rfl rfl zAK) rfl rfl⟩
    · rw [zOa,if_neg h2] at hK
      rw [chkT,if_neg h1,if_pos h2]
      skip
      repeat' first | apply en_n|apply zAH|apply zAC|apply zAF|apply w0|(apply zDw;exact rfl;exact rfl;first|assumption|omega)|(apply zCT;exact rfl;exact rfl;first|assumption|omega)|(refine zAX zF8 hW (zAZ rfl zAG))|(refine zAX zKV hD (zAZ rfl zAG))|(refine zA6 [0] [] rfl rfl zHx (hK) rfl ?_ rfl (by decide) rfl rfl rfl rfl;(repeat (refine zAI rfl ?_));exact zAM)|(apply aBox (hd:=rfl) (hro:=rfl);exact rfl;exact rfl)|apply ay (hd:=rfl)|exact zAE rfl|exact zAD rfl|(apply zAr;exact rfl;(with_reducible exact zA7))|exact zCS rfl|exact zAo rfl rfl|exact zBM rfl rfl|(apply zAV;exact rfl;(with_reducible exact zAg);exact rfl;exact rfl)|exact zGV rfl|(apply w1;exact rfl;exact rfl)|(apply zAQ;exact rfl)|(apply zAU;exact rfl)|apply zAT|apply zAN|apply en_r|apply zAP|(apply res1;exact rfl)
      all_goals rfl
theorem zPw (L : List Nd) (pat : Bool) (hL : L.length ≤ 1000000) (hw : zCH L = false) : zAm Tryz.prog 56 [zAc L,bl pat] (i64 60):=by
  have hW:=zH6 L (by omega)
  rw [hw] at hW
  refine zAd Tryz.func56 rfl Tryz.ntmps56 Tryz.results56 rfl ?_
  intro wb St0
  repeat' first | apply en_n|apply zAH|apply zAC|apply zAF|apply w0|(apply k0u (hd:=rfl);exact rfl;exact rfl)|(refine zAX zF8 hW (zAZ rfl zAG))|(apply aBox (hd:=rfl) (hro:=rfl);exact rfl;exact rfl)|apply ay (hd:=rfl)|exact zAE rfl|exact zAD rfl|(apply zAr;exact rfl;(with_reducible exact zA7))|exact zHp rfl rfl|exact zCS rfl|exact zAq rfl rfl|exact zAo rfl rfl|(apply zAV;exact rfl;(with_reducible exact zAg);exact rfl;exact rfl)|(apply w1;exact rfl;exact rfl)|(apply gD;exact rfl;exact rfl;(intro hb);rotate_left;(intro hb);rotate_right)|(apply zAQ;exact rfl)|apply zAN|apply en_r|apply zAP|(apply res1;exact rfl)
  all_goals rfl
theorem zEl (t : Tr) (hw : t.wf) (hL : t.fl.length ≤ 1000000) : zAm Tryz.prog 34 [zAc t.fl] (i64 (chkT t false)):=by
  have hc:=zPv t hw false hL
  refine zAd Tryz.func34 rfl Tryz.ntmps34 Tryz.results34 rfl ?_
  intro wb St0
  repeat' first | apply en_n|apply zAH|apply zAC|apply zAF|apply w0|(refine zAX zLe hc (zAZ rfl (zAZ rfl zAG)))|apply ay (hd:=rfl)|exact zAE rfl|exact zAD rfl|apply zAN|apply zAP|(apply res1;exact rfl)
  rfl
theorem zLE (L : List Nd) (hL : L.length ≤ 1000000) (hw : zCH L = false) : zAm Tryz.prog 34 [zAc L] (i64 60):=by
  have hc:=zPw L false hL hw
  refine zAd Tryz.func34 rfl Tryz.ntmps34 Tryz.results34 rfl ?_
  intro wb St0
  repeat' first | apply en_n|apply zAH|apply zAC|apply zAF|apply w0|(refine zAX zLe hc (zAZ rfl (zAZ rfl zAG)))|apply ay (hd:=rfl)|exact zAE rfl|exact zAD rfl|apply zAN|apply zAP|(apply res1;exact rfl)
  rfl
end Go.Proofs.YtblomnkamngnbaaGreatDoor
