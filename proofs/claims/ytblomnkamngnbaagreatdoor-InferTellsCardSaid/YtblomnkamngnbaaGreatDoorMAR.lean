/- Texts of this claim, merged: SynA. -/
import Derived.Test.YtblomnkamngnbaaGreatDoorMAH
namespace Go.Proofs.YtblomnkamngnbaaGreatDoor
open Go.Sx
attribute [local irreducible] zAT Program.underlying Ylds zBA alex zBe zBP awp zAj zBZ zBk zA2 zBH zBR zA8 zBV zBb zBf zBu zBO
theorem zMv (s : List UInt8) : zAj Tryz.prog 29 [str s] (bl (zDe s)):=by
  refine zAd Tryz.func29 rfl Tryz.ntmps29 Tryz.results29 rfl ?_
  intro wb St0
  repeat' first | apply en_n|apply zAH|apply zAB|apply zAF|apply w0|(apply zBE;exact zJt;exact zDl;exact PD_d rfl rfl (PD_d rfl rfl zB0);exact rfl)|(refine zAV zHl (zHv ⟨1,s,0,0⟩) (zAX rfl zAG))|(refine zAV zHl (zHv ⟨5,s,0,0⟩) (zAX rfl zAG))|apply ay (hd:=rfl)|exact zAE rfl|exact zAC rfl|exact zAi rfl rfl|exact zAh rfl rfl|(apply w1;exact rfl;exact rfl)|(apply k0 (hd:=rfl);exact rfl;exact rfl)|(apply g1;exact rfl;exact rfl;(intro hb);rotate_left;(intro hb);rotate_right)|apply zAM|apply zAJ|(apply res1;exact rfl)
  · rw [zDe,hb];rfl
  · rw [zDe,hb];rfl
theorem zL6 (s : List UInt8) : zAj Tryz.prog 30 [str s] (bl (conF s)):=by
  refine zAd Tryz.func30 rfl Tryz.ntmps30 Tryz.results30 rfl ?_
  intro wb St0
  repeat' first | apply en_n|apply zAH|apply zAB|apply zAF|apply w0|(apply zBE;exact zJt;exact zDl;exact PD_d rfl rfl (PD_d rfl rfl zB0);exact rfl)|(refine zAV zHl (zHv ⟨2,s,0,0⟩) (zAX rfl zAG))|apply ay (hd:=rfl)|exact zAE rfl|exact zAC rfl|apply zAM|apply zAJ|(apply res1;exact rfl)
  rfl
theorem zRd (n want : Int) : zAj Tryz.prog 166 [i64 n,.ref [i64 want]] (bl (decide (n = want))):=by
  refine zAd Tryz.func166 rfl Tryz.ntmps166 Tryz.results166 rfl ?_
  intro wb St0
  repeat' first | apply en_n|apply zAH|apply zAB|apply zAF|apply w0|(apply zOe;exact rfl;(with_reducible exact zAs))|apply ay (hd:=rfl)|exact zAE rfl|exact zAC rfl|exact zC6 rfl rfl|apply zAM|apply zAJ|(apply res1;exact rfl)
  all_goals rfl
abbrev zOF (n : Int) : D:=.clo 166 [.ref [i64 n]]
theorem zJ0 (n : Int) : zAj Tryz.prog 143 [i64 n] (zOF n):=by
  refine zAd Tryz.func143 rfl Tryz.ntmps143 Tryz.results143 rfl ?_
  intro wb St0
  repeat' first | (refine zOZ (ds:=[i64 n]) 0 2 rfl rfl rfl ?_)|apply en_n|apply zAH|apply zAB|apply zAF|apply w0|(apply aBox (hd:=rfl) (hro:=rfl);exact rfl;exact rfl)|apply ay (hd:=rfl)|exact zAC rfl|exact zCv rfl|exact zGA rfl|apply zAM|apply zAJ|(apply res1;exact rfl)
  all_goals rfl
theorem zGW (n want : Int) : VCall Tryz.prog (zOF want) [i64 n] (bl (decide (n = want))):=⟨_,_,rfl,zRn,zRd n want⟩
theorem zOQ (n : Int) : zAj Tryz.prog 144 [i64 n] (bl (decide (3 ≤ n ∧ n % 2 = 1))):=by
  refine zAd Tryz.func144 rfl Tryz.ntmps144 Tryz.results144 rfl ?_
  intro wb St0
  repeat' first | apply en_n|apply zAH|apply zAB|apply zAF|apply w0|(apply k1u (hd:=rfl);exact rfl;exact rfl)|(apply zMZ;exact rfl;exact rfl;exact (by decide))|apply ay (hd:=rfl)|exact zAE rfl|exact zAC rfl|exact zEU rfl rfl|exact zC6 rfl rfl|exact zAi rfl rfl|exact zAh rfl rfl|(apply w1;exact rfl;exact rfl)|(apply gD;exact rfl;exact rfl;(intro hb);rotate_left;(intro hb);rotate_right)|apply zAM|apply zAJ|(apply res1;exact rfl)
  · refine zDB ?_
    rw [Int.tmod_eq_emod_of_nonneg (by omega),decide_eq_decide];omega
  · refine zDB ?_
    symm;rw [decide_eq_false_iff_not];omega
theorem zOP (n : Int) : zAj Tryz.prog 145 [i64 n] (bl true):=by
  refine zAd Tryz.func145 rfl Tryz.ntmps145 Tryz.results145 rfl ?_
  intro wb St0
  repeat' first | apply en_n|apply zAH|apply zAB|apply zAF|apply w0|apply ay (hd:=rfl)|exact zAC rfl|apply zAM|apply zAJ|(apply res1;exact rfl)
  all_goals rfl
theorem zFc (k : Int) : zAj Tryz.prog 104 [i64 k] (bl (patK k)):=by
  refine zAd Tryz.func104 rfl Tryz.ntmps104 Tryz.results104 rfl ?_
  intro wb St0
  repeat' first | apply en_n|apply zAH|apply zAB|apply zAF|apply w0|(apply k1u (hd:=rfl);exact rfl;exact rfl)|apply ay (hd:=rfl)|exact zAE rfl|exact zAC rfl|exact zHH rfl rfl|exact zEU rfl rfl|exact zAi rfl rfl|exact zAh rfl rfl|(apply w1;exact rfl;exact rfl)|(apply gD;exact rfl;exact rfl;(intro hb);rotate_left;(intro hb);rotate_right)|apply zAM|apply zAJ|(apply res1;exact rfl)
  · refine zDB ?_
    rw [patK,decide_eq_decide];omega
  · refine zDB ?_
    symm;rw [patK,decide_eq_false_iff_not];omega
def zTH (k : Int) : D :=
  if k = 1 ∨ k = 23 ∨ k = 2 ∨ k = 3 ∨ k = 22 ∨ k = 4 ∨ k = 21 then zOF 0
  else if k = 5 ∨ k = 11 then zOF 1 else if k = 7 ∨ k = 8 ∨ k = 12 ∨ k = 6 then zOF 2 else if k = 9 then zOF 3
  else if k = 10 then .clo 144 [] else .clo 145 []
def zNB (k : Int) : D :=
  if namK k = true then .clo 29 [] else if k = 4 ∨ k = 24 then .clo 30 [] else .val .nilFunc
def zRt (k : Int) : D :=
  if okK k = true then .agg [bl (numK k),bl (decide (k = 2)),zNB k,zTH k,bl true] else .agg [bl false,bl false,.val .nilFunc,.val .nilFunc,bl false]
theorem zPc (k n : Int) (h : okK k = true) : VCall Tryz.prog (zTH k) [i64 n] (bl (cntK k n)):=by
  unfold zTH
  split
  · rename_i c
    have e : cntK k n = decide (n = 0):=by
      unfold cntK
      rw [if_neg (by omega),if_neg (by omega),if_neg (by omega),if_neg (by omega),if_neg (by omega)]
    rw [e];exact zGW n 0
  · split
    · rename_i c
      rw [cntK,if_pos c];exact zGW n 1
    · split
      · rename_i c
        rw [cntK,if_neg (by omega),if_pos (by omega)];exact zGW n 2
      · split
        · rename_i c
          rw [cntK,if_neg (by omega),if_neg (by omega),if_pos c];exact zGW n 3
        · split
          · rename_i c
            rw [cntK,if_neg (by omega),if_neg (by omega),if_neg (by omega),if_pos c];exact ⟨_,_,rfl,zOM,zOQ n⟩
          · have h2:=of_decide_eq_true h
            rw [cntK,if_neg (by omega),if_neg (by omega),if_neg (by omega),if_neg (by omega),if_pos (by omega)];exact ⟨_,_,rfl,zOL,zOP n⟩
theorem zGO {k : Int} (h : okK k = true) : k = 1 ∨ k = 2 ∨ k = 3 ∨ k = 4 ∨ k = 5 ∨ k = 6 ∨ k = 7 ∨ k = 8 ∨ k = 9 ∨ k = 10 ∨ k = 11 ∨ k = 12 ∨ k = 21 ∨ k = 22 ∨ k = 23 ∨ k = 24:=by
  have:=of_decide_eq_true h;omega
set_option maxHeartbeats 4000000 in
theorem zP0 (k : Int) : zAj Tryz.prog 126 [i64 k] (zRt k):=by
  have j0:=zJ0 0
  have j1:=zJ0 1
  have j2:=zJ0 2
  have j3:=zJ0 3
  refine zIE Tryz.func126 rfl Tryz.ntmps126 Tryz.results126 rfl ?_
  intro wb St0
  cases hok : okK k with
  | true =>
    rcases zGO hok with rfl | rfl | rfl | rfl | rfl | rfl | rfl | rfl | rfl | rfl | rfl | rfl | rfl | rfl | rfl | rfl
    all_goals
      repeat' first | apply en_n|apply zAH|apply zAB|apply zAF|apply w0|(apply zBD;exact rfl;exact rfl;first|assumption|omega)|(apply zA9;exact rfl;exact rfl;first|assumption|omega)|(refine zAV zKA j0 (zAX rfl zAG))|(refine zAV zKA j1 (zAX rfl zAG))|(refine zAV zKA j2 (zAX rfl zAG))|(refine zAV zKA j3 (zAX rfl zAG))|(apply zBE;exact zG1;exact zDR;exact PD_d rfl rfl (PD_d rfl rfl (PD_d rfl rfl zB0));exact rfl)|(apply zBE;exact zG1;exact zDR;exact PD_c rfl (PD_d rfl rfl (PD_d rfl rfl zB0));exact rfl)|(apply zBE;exact zG1;exact zDR;exact PD_c rfl (PD_c rfl (PD_d rfl rfl zB0));exact rfl)|(apply zBE;exact zG1;exact zDR;exact PD_d rfl rfl (PD_d rfl rfl zB0);exact rfl)|(apply zBE;exact zG1;exact zDR;exact PD_c rfl (PD_d rfl rfl zB0);exact rfl)|(refine zCx ?_)|(refine zJq ?_)|(refine RV_c rfl rfl zEq rfl rfl zFw ?_)|(apply zA4 (hd:=rfl) (hro:=rfl);(with_reducible exact zDR))|apply ay (hd:=rfl)|exact zAE rfl|exact zAC rfl|(refine w0' ?_)|(apply zAx;exact rfl;exact rfl;exact rfl;(with_reducible exact zEq);exact rfl;exact rfl;exact rfl;exact rfl)|(apply zAK;exact rfl)|(apply zAQ;exact rfl)|apply zAI|apply zAP|apply zAM|apply en_r|apply eb_r
    all_goals rfl
  | false =>
    have h1:=of_decide_eq_false hok
    have n1 : ¬ k = 1:=by omega
    rw [zRt,if_neg (by rw [hok];decide)]
    repeat' first | apply en_n|apply zAH|apply zAB|apply zAF|apply w0|(apply zA9;exact rfl;exact rfl;first|assumption|omega)|(apply zBE;exact zG1;exact zDR;exact zB0;exact rfl)|(refine zCx ?_)|(refine zJq ?_)|(refine RV_c rfl rfl zEq rfl rfl zFw ?_)|(apply zA4 (hd:=rfl) (hro:=rfl);(with_reducible exact zDR))|apply ay (hd:=rfl)|exact zAE rfl|exact zAC rfl|(refine w0' ?_)|(apply zAx;exact rfl;exact rfl;exact rfl;(with_reducible exact zEq);exact rfl;exact rfl;exact rfl;exact rfl)|(apply zAQ;exact rfl)|apply zAI|apply zAP|apply zAM|apply eb_n
    all_goals rfl
end Go.Proofs.YtblomnkamngnbaaGreatDoor
