/- Texts of this claim, merged: SynE. -/
import Derived.Test.YtblomnkamngnbaaGreatDoorMAU
import Derived.Test.YtblomnkamngnbaaGreatDoorMAV
namespace Go.Proofs.YtblomnkamngnbaaGreatDoor
open Go.Sx
theorem zKD : zAT Tryz.prog 94 = true:=by kernel_rfl
attribute [local irreducible] zAT Program.underlying Ylds zBA alex zBe zBP awp zAj zBZ zBk zA2 zBH zBR zA8 zBV zBb zBf zBu zBO VCall
def chkT (t : Tr) (pat : Bool) : Int :=
  if 4000 < t.sz ∨ 100 < zDu t.fl then 60 else if t.werr pat ≠ 0 then t.werr pat else if t.tw then 63 else 0
structure Ats (L : List Nd) (n : Nat) (ts : List Tr) : Prop where
  drop : L.drop n = flL ts
  wf : wfL ts
theorem Ats.head {L : List Nd} {n : Nat} {t : Tr} {r : List Tr} (h : Ats L n (t :: r)) : At L n t:=by
  have hw:=h.wf
  rw [wfL] at hw
  exact ⟨⟨flL r,by rw [h.drop,flL]⟩,hw.1⟩
theorem Ats.over {L : List Nd} {n : Nat} {t : Tr} {r : List Tr} (h : Ats L n (t :: r)) : Ats L (n + t.sz) r:=by
  have hw:=h.wf
  rw [wfL] at hw
  exact ⟨by rw [← List.drop_drop,h.drop,flL, ← Tr.fl_len,List.drop_left],hw.2⟩
theorem zJT : ∀ (a b : List Tr),flL (a ++ b) = flL a ++ flL b
  | [],b=>by rw [List.nil_append,flL,List.nil_append]
  | t :: a,b=>by rw [List.cons_append,flL,flL,zJT a b,List.append_assoc]
theorem zNt {a b : List Tr} : wfL (a ++ b) ↔ wfL a ∧ wfL b:=by
  rw [zCW,zCW,zCW];simp only [List.mem_append]
  exact ⟨fun h=>⟨fun k hk=>h k (.inl hk),fun k hk=>h k (.inr hk)⟩,fun ⟨h1,h2⟩ k hk=>hk.elim (h1 k) (h2 k)⟩
theorem Ats.into {L : List Nd} {n : Nat} {x : Nd} {ks r : List Tr} (h : Ats L n (.mk x ks :: r)) : Ats L (n + 1) (ks ++ r):=by
  have hw:=h.wf
  rw [wfL,Tr.wf] at hw
  refine ⟨?_,zNt.2 ⟨hw.1.2,hw.2⟩⟩
  rw [← List.drop_drop,h.drop,flL,Tr.fl,zJT];rfl
theorem zIz : ∀ (a b : List Tr),twL (a ++ b) = (twL a || twL b)
  | [],b=>by rw [List.nil_append,twL,Bool.false_or]
  | t :: a,b=>by rw [List.cons_append,twL,twL,zIz a b,Bool.or_assoc]
theorem zJd {t : Tr} (h : t.wf) : zCA t.fl = true:=zFY.2 ⟨t,rfl,h⟩
theorem Ats.none {L : List Nd} {n : Nat} (h : Ats L n []) : L.length ≤ n:=by
  have:=congrArg List.length h.drop
  rw [List.length_drop,flL,List.length_nil] at this;omega
theorem Ats.lt {L : List Nd} {n : Nat} {t : Tr} {r : List Tr} (h : Ats L n (t :: r)) : n < L.length:=by
  have:=h.head.len;have:=zBS t;omega
set_option maxHeartbeats 8000000 in
theorem zO9 (t : Tr) (hw : t.wf) (pat : Bool) (hL : t.fl.length ≤ 1000000) : zAj Tryz.prog 56 [zAc t.fl,bl pat] (i64 (chkT t pat)):=by
  have hsz:=Tr.fl_len t
  have hW:=zHu t.fl (by omega)
  rw [zJd hw] at hW
  have hD:=zT0 t.fl (by omega)
  have hK:=zOt t.fl (by omega) t.sz 0 t pat (Nat.le_refl _) (.top hw)
  refine zAd Tryz.func56 rfl Tryz.ntmps56 Tryz.results56 rfl ?_
  intro wb St0
  by_cases h1 : 4000 < t.sz ∨ 100 < zDu t.fl
  · rw [chkT,if_pos h1]
    by_cases h3 : 4000 < t.sz
    · skip
      repeat' first | apply en_n|apply zAH|apply zAB|apply zAF|apply w0|(apply k0u (hd:=rfl);exact rfl;exact rfl)|(apply zEo;exact rfl;exact rfl;first|assumption|omega)|(apply aBox (hd:=rfl) (hro:=rfl);exact rfl;exact rfl)|apply ay (hd:=rfl)|exact zAE rfl|exact zAC rfl|(apply zAl;exact rfl;(with_reducible exact zA0))|exact zAi rfl rfl|(apply zAU;exact rfl;(with_reducible exact zAn);exact rfl;exact rfl)|(apply zAK;exact rfl)|apply zAM|apply en_r|apply zAJ|(apply res1;exact rfl)
      all_goals rfl
    · have h4 : 100 < zDu t.fl:=by omega
      skip
      repeat' first | apply en_n|apply zAH|apply zAB|apply zAF|apply w0|(apply zEo;exact rfl;exact rfl;first|assumption|omega)|(apply zDo;exact rfl;exact rfl;first|assumption|omega)|(refine zAV zFk hW (zAX rfl zAG))|(refine zAV zKD hD (zAX rfl zAG))|(apply aBox (hd:=rfl) (hro:=rfl);exact rfl;exact rfl)|apply ay (hd:=rfl)|exact zAE rfl|exact zAC rfl|(apply zAl;exact rfl;(with_reducible exact zA0))|exact zBr rfl|exact zAh rfl rfl|(apply zAU;exact rfl;(with_reducible exact zAn);exact rfl;exact rfl)|(apply w1;exact rfl;exact rfl)|(apply zAK;exact rfl)|apply zAM|apply en_r|apply zAJ|(apply res1;exact rfl)
      all_goals rfl
  · have h3 : ¬ 4000 < t.sz:=fun c=>h1 (.inl c)
    have h4 : ¬ 100 < zDu t.fl:=fun c=>h1 (.inr c)
    by_cases h2 : t.werr pat = 0
    · rw [zNu,if_pos h2] at hK
      rw [chkT,if_neg h1,if_neg (by rw [h2];decide)]
      skip
      repeat' first | apply en_n|apply zAH|apply zAB|apply zAF|apply w0|(apply zDo;exact rfl;exact rfl;first|assumption|omega)|(apply zBU;exact rfl;exact rfl;first|assumption|omega)|(refine zAV zFk hW (zAX rfl zAG))|(refine zAV zKD hD (zAX rfl zAG))|(refine zBB [0] [] rfl rfl zHi (hK) rfl ?_ rfl (by decide) rfl rfl rfl rfl;(repeat (refine zAL rfl ?_));exact zAS)|(apply aBox (hd:=rfl) (hro:=rfl);exact rfl;exact rfl)|apply ay (hd:=rfl)|exact zAE rfl|exact zAC rfl|(apply zAl;exact rfl;(with_reducible exact zA0))|exact zBr rfl|exact zAh rfl rfl|exact zBQ rfl rfl|exact zCv rfl|(apply zAU;exact rfl;(with_reducible exact zAn);exact rfl;exact rfl)|exact zGA rfl|(apply w1;exact rfl;exact rfl)|(apply zAQ;exact rfl)|apply zAI|apply zAP
      refine zAr (α:=Nat × List Tr) (fun p=>Ats t.fl p.1 p.2 ∧ twL p.2 = t.tw) (fun p=>[(2,.ptr 0 0),(7,.clo 98 [0]),(8,.d (i64 (p.1 : Int)))]) (fun _=>lO t.fl) (fun p=>t.fl.length - p.1) (0,[t])
        ⟨⟨by rw [List.drop_zero,flL,flL,List.append_nil],by rw [wfL];exact ⟨hw,trivial⟩⟩,by rw [twL,twL,Bool.or_false]⟩ (zAO (zAA rfl (zAA rfl (zAA rfl zAa))) (zAD rfl rfl zAN) rfl rfl) ?_
      rintro ⟨n,ts⟩ ⟨hA,hT⟩
      dsimp only at hA hT ⊢
      match ts,hA,hT with
      | [],hA,hT =>
        have hn:=hA.none
        have hli : ¬ (n : Int) < (t.fl.length : Int):=by omega
        rw [twL] at hT
        rw [← hT]
        skip
        repeat' first | apply en_n|apply zAH|apply zAB|apply zAF|apply w0|(apply zBq;exact rfl;exact rfl;first|assumption|omega)|apply ay (hd:=rfl)|exact zAE rfl|exact zAC rfl|(apply zAl;exact rfl;(with_reducible exact zA0))|(apply zAU;exact rfl;(with_reducible exact zAn);exact rfl;exact rfl)|(apply zAQ;exact rfl)|apply zAM|apply zAt|apply en_e|apply eb_e|apply zAJ|(apply res1;exact rfl)
        all_goals rfl
      | .mk x ks :: r,hA,hT =>
        have hn:=hA.lt
        have hli : (n : Int) < (t.fl.length : Int):=by omega
        have hx:=hA.head.here
        have hp:=zFc x.kind
        have hE:=zFx t.fl (n : Int) (by omega)
        rw [hA.head.endF] at hE
        have hC:=zNz t.fl n _ hA.head (by omega)
        have hov:=hA.over
        have hin:=hA.into
        rw [twL,Tr.tw] at hT
        have hszp:=zBS (.mk x ks)
        have hle:=hA.head.len
        rw [Tr.fl] at hC
        generalize Tr.sz (.mk x ks) = s at *
        cases hk : patK x.kind with
        | false =>
          rw [hk] at hp
          rw [if_neg (by rw [hk];decide)] at hT
          skip
          repeat' first | apply en_n|apply zAH|apply zAB|apply zAF|apply w0|(apply zA5;exact rfl;exact rfl;first|assumption|omega)|(refine zAV zDU hp (zAX rfl zAG))|(apply aJ (hd:=rfl);(first|exact zAk rfl|exact Co_bb rfl rfl rfl|exact Co_nn rfl);exact rfl;(with_reducible exact zAW);assumption;omega;exact fun _=>rfl)|apply ay (hd:=rfl)|exact zAE rfl|exact zAC rfl|(apply zAy;exact rfl;(with_reducible exact fn_0))|(apply zAg;exact rfl;(with_reducible exact zAe))|(apply zAl;exact rfl;(with_reducible exact zA0))|(apply zBC;exact rfl;exact rfl)|exact zBr rfl|(apply zAU;exact rfl;(with_reducible exact zAn);exact rfl;exact rfl)|(apply zAK;exact rfl)|apply zAI|apply zAP|apply zAt|apply en_e|apply eb_e
          all_goals try omega
          exact ⟨(n + 1,ks ++ r),⟨hin,by rw [zIz];exact hT⟩,by simp only;omega,zAO (zAA rfl (zAA rfl (zAA rfl zAa))) (zAD rfl rfl zAN) rfl rfl⟩
        | true =>
          rw [hk] at hp
          rw [if_pos hk] at hT
          cases hd : !decide (zBJ (x :: flL ks)).Nodup with
          | true =>
            rw [hd] at hC hT
            rw [← hT]
            skip
            repeat' first | apply en_n|apply zAH|apply zAB|apply zAF|apply w0|(apply zA5;exact rfl;exact rfl;first|assumption|omega)|(refine zAV zDU hp (zAX rfl zAG))|exact zBF rfl|(refine zBB [0] [0] rfl rfl zJG (hC) rfl ?_ rfl (by decide) rfl rfl rfl rfl;(repeat (refine zAL rfl ?_));exact zAS)|(apply aJ (hd:=rfl);(first|exact zAk rfl|exact Co_bb rfl rfl rfl|exact Co_nn rfl);exact rfl;(with_reducible exact zAW);assumption;omega;exact fun _=>rfl)|apply ay (hd:=rfl)|exact zAE rfl|exact zAC rfl|(apply zAy;exact rfl;(with_reducible exact fn_0))|(apply zAg;exact rfl;(with_reducible exact zAe))|(apply zAl;exact rfl;(with_reducible exact zA0))|exact zBr rfl|(apply zAU;exact rfl;(with_reducible exact zAn);exact rfl;exact rfl)|(apply zAK;exact rfl)|(apply zAQ;exact rfl)|apply zAI|apply zAP|apply zAM|apply en_r|apply eb_r|apply zAJ|(apply res1;exact rfl)
            all_goals try omega
            all_goals rfl
          | false =>
            rw [hd] at hC hT
            skip
            repeat' first | apply en_n|apply zAH|apply zAB|apply zAF|apply w0|(apply zA5;exact rfl;exact rfl;first|assumption|omega)|(refine zAV zDU hp (zAX rfl zAG))|exact zBF rfl|(refine zBB [0] [0] rfl rfl zJG (hC) rfl ?_ rfl (by decide) rfl rfl rfl rfl;(repeat (refine zAL rfl ?_));exact zAS)|(refine zAV zFs hE (zAX rfl (zAX rfl zAG)))|(apply aJ (hd:=rfl);(first|exact zAk rfl|exact Co_bb rfl rfl rfl|exact Co_nn rfl);exact rfl;(with_reducible exact zAW);assumption;omega;exact fun _=>rfl)|apply ay (hd:=rfl)|exact zAE rfl|exact zAC rfl|(apply zAy;exact rfl;(with_reducible exact fn_0))|(apply zAg;exact rfl;(with_reducible exact zAe))|(apply zAl;exact rfl;(with_reducible exact zA0))|(apply zBC;exact rfl;exact rfl)|(apply zIt;exact rfl;exact rfl)|exact zBr rfl|(apply zAU;exact rfl;(with_reducible exact zAn);exact rfl;exact rfl)|(apply zAK;exact rfl)|(apply zAQ;exact rfl)|apply zAI|apply zAP|apply eb_n
            all_goals try omega
            exact ⟨(n + s,r),⟨hov,by simpa using hT⟩,by simp only;omega,zAO (zAA rfl (zAA rfl (Le_d rfl (by congr 2;omega) zAa))) (zAD rfl rfl zAN) rfl rfl⟩
    · rw [zNu,if_neg h2] at hK
      rw [chkT,if_neg h1,if_pos h2]
      skip
      repeat' first | apply en_n|apply zAH|apply zAB|apply zAF|apply w0|(apply zDo;exact rfl;exact rfl;first|assumption|omega)|(apply zB7;exact rfl;exact rfl;first|assumption|omega)|(refine zAV zFk hW (zAX rfl zAG))|(refine zAV zKD hD (zAX rfl zAG))|(refine zBB [0] [] rfl rfl zHi (hK) rfl ?_ rfl (by decide) rfl rfl rfl rfl;(repeat (refine zAL rfl ?_));exact zAS)|(apply aBox (hd:=rfl) (hro:=rfl);exact rfl;exact rfl)|apply ay (hd:=rfl)|exact zAE rfl|exact zAC rfl|(apply zAl;exact rfl;(with_reducible exact zA0))|exact zBr rfl|exact zAh rfl rfl|exact zBQ rfl rfl|(apply zAU;exact rfl;(with_reducible exact zAn);exact rfl;exact rfl)|exact zGA rfl|(apply w1;exact rfl;exact rfl)|(apply zAK;exact rfl)|(apply zAQ;exact rfl)|apply zAP|apply zAM|apply en_r|apply zAJ|(apply res1;exact rfl)
      all_goals rfl
theorem zPA (L : List Nd) (pat : Bool) (hL : L.length ≤ 1000000) (hw : zCA L = false) : zAj Tryz.prog 56 [zAc L,bl pat] (i64 60):=by
  have hW:=zHu L (by omega)
  rw [hw] at hW
  refine zAd Tryz.func56 rfl Tryz.ntmps56 Tryz.results56 rfl ?_
  intro wb St0
  repeat' first | apply en_n|apply zAH|apply zAB|apply zAF|apply w0|(apply k0u (hd:=rfl);exact rfl;exact rfl)|(refine zAV zFk hW (zAX rfl zAG))|(apply aBox (hd:=rfl) (hro:=rfl);exact rfl;exact rfl)|apply ay (hd:=rfl)|exact zAE rfl|exact zAC rfl|(apply zAl;exact rfl;(with_reducible exact zA0))|exact zEp rfl rfl|exact zBr rfl|exact zAi rfl rfl|exact zAh rfl rfl|(apply zAU;exact rfl;(with_reducible exact zAn);exact rfl;exact rfl)|(apply w1;exact rfl;exact rfl)|(apply gD;exact rfl;exact rfl;(intro hb);rotate_left;(intro hb);rotate_right)|(apply zAK;exact rfl)|apply zAM|apply en_r|apply zAJ|(apply res1;exact rfl)
  all_goals rfl
theorem zEY (t : Tr) (hw : t.wf) (hL : t.fl.length ≤ 1000000) : zAj Tryz.prog 34 [zAc t.fl] (i64 (chkT t false)):=by
  have hc:=zO9 t hw false hL
  refine zAd Tryz.func34 rfl Tryz.ntmps34 Tryz.results34 rfl ?_
  intro wb St0
  repeat' first | apply en_n|apply zAH|apply zAB|apply zAF|apply w0|(refine zAV zLC hc (zAX rfl (zAX rfl zAG)))|apply ay (hd:=rfl)|exact zAE rfl|exact zAC rfl|apply zAM|apply zAJ|(apply res1;exact rfl)
  rfl
theorem zKj (L : List Nd) (hL : L.length ≤ 1000000) (hw : zCA L = false) : zAj Tryz.prog 34 [zAc L] (i64 60):=by
  have hc:=zPA L false hL hw
  refine zAd Tryz.func34 rfl Tryz.ntmps34 Tryz.results34 rfl ?_
  intro wb St0
  repeat' first | apply en_n|apply zAH|apply zAB|apply zAF|apply w0|(refine zAV zLC hc (zAX rfl (zAX rfl zAG)))|apply ay (hd:=rfl)|exact zAE rfl|exact zAC rfl|apply zAM|apply zAJ|(apply res1;exact rfl)
  rfl
end Go.Proofs.YtblomnkamngnbaaGreatDoor
