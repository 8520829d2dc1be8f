/- Texts of this claim, merged: SynA. -/
import Derived.Test.YtblomnkamngnbaaGreatDoorMAI
namespace Go.Proofs.YtblomnkamngnbaaGreatDoor
open Go.Sx
attribute [local irreducible] zAO Program.underlying Ylds zA3 alex zBY zBN awp zAm zBT zBe zAx zBA zBP zA2 zBR zBX zBa zBq zBI
theorem zNb (s : List UInt8) : zAm Tryz.prog 29 [str s] (bl (zD1 s)):=by
  refine zAd Tryz.func29 rfl Tryz.ntmps29 Tryz.results29 rfl ?_
  intro wb St0
  repeat' first | apply en_n|apply zAH|apply zAC|apply zAF|apply w0|(apply zBS;exact zMf;exact zNG;exact PD_d rfl rfl (PD_d rfl rfl zCF);exact rfl)|(refine zAX zHz (zH7 ⟨1,s,0,0⟩) (zAZ rfl zAG))|(refine zAX zHz (zH7 ⟨5,s,0,0⟩) (zAZ rfl zAG))|apply ay (hd:=rfl)|exact zAE rfl|exact zAD rfl|exact zAq rfl rfl|exact zAo rfl rfl|(apply w1;exact rfl;exact rfl)|(apply k0 (hd:=rfl);exact rfl;exact rfl)|(apply g1;exact rfl;exact rfl;(intro hb);rotate_left;(intro hb);rotate_right)|apply zAN|apply zAP|(apply res1;exact rfl)
  · rw [zD1,hb];rfl
  · rw [zD1,hb];rfl
theorem zMd (s : List UInt8) : zAm Tryz.prog 30 [str s] (bl (conF s)):=by
  refine zAd Tryz.func30 rfl Tryz.ntmps30 Tryz.results30 rfl ?_
  intro wb St0
  repeat' first | apply en_n|apply zAH|apply zAC|apply zAF|apply w0|(apply zBS;exact zMf;exact zNG;exact PD_d rfl rfl (PD_d rfl rfl zCF);exact rfl)|(refine zAX zHz (zH7 ⟨2,s,0,0⟩) (zAZ rfl zAG))|apply ay (hd:=rfl)|exact zAE rfl|exact zAD rfl|apply zAN|apply zAP|(apply res1;exact rfl)
  rfl
theorem zSe (n want : Int) : zAm Tryz.prog 166 [i64 n,.ref [i64 want]] (bl (decide (n = want))):=by
  refine zAd Tryz.func166 rfl Tryz.ntmps166 Tryz.results166 rfl ?_
  intro wb St0
  repeat' first | apply en_n|apply zAH|apply zAC|apply zAF|apply w0|(apply zPK;exact rfl;(with_reducible exact zAz))|apply ay (hd:=rfl)|exact zAE rfl|exact zAD rfl|exact zD7 rfl rfl|apply zAN|apply zAP|(apply res1;exact rfl)
  all_goals rfl
abbrev zOu (n : Int) : D:=.clo 166 [.ref [i64 n]]
theorem zKH (n : Int) : zAm Tryz.prog 143 [i64 n] (zOu n):=by
  refine zAd Tryz.func143 rfl Tryz.ntmps143 Tryz.results143 rfl ?_
  intro wb St0
  repeat' first | (refine zPF (ds:=[i64 n]) 0 2 rfl rfl rfl ?_)|apply en_n|apply zAH|apply zAC|apply zAF|apply w0|(apply aBox (hd:=rfl) (hro:=rfl);exact rfl;exact rfl)|apply ay (hd:=rfl)|exact zAD rfl|exact zC4 rfl|exact zGV rfl|apply zAN|apply zAP|(apply res1;exact rfl)
  all_goals rfl
theorem zGu (n want : Int) : VCall Tryz.prog (zOu want) [i64 n] (bl (decide (n = want))):=⟨_,_,rfl,zSp,zSe n want⟩
theorem zO5 (n : Int) : zAm Tryz.prog 144 [i64 n] (bl (decide (3 ≤ n ∧ n % 2 = 1))):=by
  refine zAd Tryz.func144 rfl Tryz.ntmps144 Tryz.results144 rfl ?_
  intro wb St0
  repeat' first | apply en_n|apply zAH|apply zAC|apply zAF|apply w0|(apply k1u (hd:=rfl);exact rfl;exact rfl)|(apply zTI;exact rfl;exact rfl;exact (by decide))|apply ay (hd:=rfl)|exact zAE rfl|exact zAD rfl|exact zFp rfl rfl|exact zD7 rfl rfl|exact zAq rfl rfl|exact zAo rfl rfl|(apply w1;exact rfl;exact rfl)|(apply gD;exact rfl;exact rfl;(intro hb);rotate_left;(intro hb);rotate_right)|apply zAN|apply zAP|(apply res1;exact rfl)
  · refine zD6 ?_
    rw [Int.tmod_eq_emod_of_nonneg (by omega),decide_eq_decide];omega
  · refine zD6 ?_
    symm;rw [decide_eq_false_iff_not];omega
theorem zO4 (n : Int) : zAm Tryz.prog 145 [i64 n] (bl true):=by
  refine zAd Tryz.func145 rfl Tryz.ntmps145 Tryz.results145 rfl ?_
  intro wb St0
  repeat' first | apply en_n|apply zAH|apply zAC|apply zAF|apply w0|apply ay (hd:=rfl)|exact zAD rfl|apply zAN|apply zAP|(apply res1;exact rfl)
  all_goals rfl
theorem zFy (k : Int) : zAm Tryz.prog 104 [i64 k] (bl (patK k)):=by
  refine zAd Tryz.func104 rfl Tryz.ntmps104 Tryz.results104 rfl ?_
  intro wb St0
  repeat' first | apply en_n|apply zAH|apply zAC|apply zAF|apply w0|(apply k1u (hd:=rfl);exact rfl;exact rfl)|apply ay (hd:=rfl)|exact zAE rfl|exact zAD rfl|exact zI7 rfl rfl|exact zFp rfl rfl|exact zAq rfl rfl|exact zAo rfl rfl|(apply w1;exact rfl;exact rfl)|(apply gD;exact rfl;exact rfl;(intro hb);rotate_left;(intro hb);rotate_right)|apply zAN|apply zAP|(apply res1;exact rfl)
  · refine zD6 ?_
    rw [patK,decide_eq_decide];omega
  · refine zD6 ?_
    symm;rw [patK,decide_eq_false_iff_not];omega
def zUQ (k : Int) : D :=
  if k = 1 ∨ k = 23 ∨ k = 2 ∨ k = 3 ∨ k = 22 ∨ k = 4 ∨ k = 21 then zOu 0
  else if k = 5 ∨ k = 11 then zOu 1 else if k = 7 ∨ k = 8 ∨ k = 12 ∨ k = 6 then zOu 2 else if k = 9 then zOu 3
  else if k = 10 then .clo 144 [] else .clo 145 []
def zNq (k : Int) : D :=
  if namK k = true then .clo 29 [] else if k = 4 ∨ k = 24 then .clo 30 [] else .val .nilFunc
def zSv (k : Int) : D :=
  if okK k = true then .agg [bl (numK k),bl (decide (k = 2)),zNq k,zUQ k,bl true] else .agg [bl false,bl false,.val .nilFunc,.val .nilFunc,bl false]
theorem zQQ (k n : Int) (h : okK k = true) : VCall Tryz.prog (zUQ k) [i64 n] (bl (cntK k n)):=by
  unfold zUQ
  split
  · rename_i c
    have e : cntK k n = decide (n = 0):=by
      unfold cntK
      rw [if_neg (by omega),if_neg (by omega),if_neg (by omega),if_neg (by omega),if_neg (by omega)]
    rw [e];exact zGu n 0
  · split
    · rename_i c
      rw [cntK,if_pos c];exact zGu n 1
    · split
      · rename_i c
        rw [cntK,if_neg (by omega),if_pos (by omega)];exact zGu n 2
      · split
        · rename_i c
          rw [cntK,if_neg (by omega),if_neg (by omega),if_pos c];exact zGu n 3
        · split
          · rename_i c
            rw [cntK,if_neg (by omega),if_neg (by omega),if_neg (by omega),if_pos c];exact ⟨_,_,rfl,zO0,zO5 n⟩
          · have h2:=of_decide_eq_true h
            rw [cntK,if_neg (by omega),if_neg (by omega),if_neg (by omega),if_neg (by omega),if_pos (by omega)];exact ⟨_,_,rfl,zOz,zO4 n⟩
theorem zLN {k : Int} (h : okK k = true) : k = 1 ∨ k = 2 ∨ k = 3 ∨ k = 4 ∨ k = 5 ∨ k = 6 ∨ k = 7 ∨ k = 8 ∨ k = 9 ∨ k = 10 ∨ k = 11 ∨ k = 12 ∨ k = 21 ∨ k = 22 ∨ k = 23 ∨ k = 24:=by
  have:=of_decide_eq_true h;omega
set_option maxHeartbeats 4000000 in
theorem zQp (k : Int) : zAm Tryz.prog 126 [i64 k] (zSv k):=by
  have j0:=zKH 0
  have j1:=zKH 1
  have j2:=zKH 2
  have j3:=zKH 3
  refine zIR Tryz.func126 rfl Tryz.ntmps126 Tryz.results126 rfl ?_
  intro wb St0
  cases hok : okK k with
  | true =>
    rcases zLN hok with rfl | rfl | rfl | rfl | rfl | rfl | rfl | rfl | rfl | rfl | rfl | rfl | rfl | rfl | rfl | rfl
    all_goals
      repeat' first | apply en_n|apply zAH|apply zAC|apply zAF|apply w0|(apply zBV;exact rfl;exact rfl;first|assumption|omega)|(apply zBW;exact rfl;exact rfl;first|assumption|omega)|(refine zAX zKS j0 (zAZ rfl zAG))|(refine zAX zKS j1 (zAZ rfl zAG))|(refine zAX zKS j2 (zAZ rfl zAG))|(refine zAX zKS j3 (zAZ rfl zAG))|(apply zBS;exact zHP;exact zDU;exact PD_d rfl rfl (PD_d rfl rfl (PD_d rfl rfl zCF));exact rfl)|(apply zBS;exact zHP;exact zDU;exact PD_c rfl (PD_d rfl rfl (PD_d rfl rfl zCF));exact rfl)|(apply zBS;exact zHP;exact zDU;exact PD_c rfl (PD_c rfl (PD_d rfl rfl zCF));exact rfl)|(apply zBS;exact zHP;exact zDU;exact PD_d rfl rfl (PD_d rfl rfl zCF);exact rfl)|(apply zBS;exact zHP;exact zDU;exact PD_c rfl (PD_d rfl rfl zCF);exact rfl)|(refine zC8 ?_)|(refine zJ4 ?_)|(refine RV_c rfl rfl zE3 rfl rfl zGK ?_)|(apply zBE (hd:=rfl) (hro:=rfl);(with_reducible exact zDU))|apply ay (hd:=rfl)|exact zAE rfl|exact zAD rfl|(refine w0' ?_)|(apply zA0;exact rfl;exact rfl;exact rfl;(with_reducible exact zE3);exact rfl;exact rfl;exact rfl;exact rfl)|(apply zAQ;exact rfl)|(apply zAU;exact rfl)|apply zAJ|apply zAT|apply zAN|apply en_r|apply eb_r
    all_goals rfl
  | false =>
    have h1:=of_decide_eq_false hok
    have n1 : ¬ k = 1:=by omega
    rw [zSv,if_neg (by rw [hok];decide)]
    repeat' first | apply en_n|apply zAH|apply zAC|apply zAF|apply w0|(apply zBW;exact rfl;exact rfl;first|assumption|omega)|(apply zBS;exact zHP;exact zDU;exact zCF;exact rfl)|(refine zC8 ?_)|(refine zJ4 ?_)|(refine RV_c rfl rfl zE3 rfl rfl zGK ?_)|(apply zBE (hd:=rfl) (hro:=rfl);(with_reducible exact zDU))|apply ay (hd:=rfl)|exact zAE rfl|exact zAD rfl|(refine w0' ?_)|(apply zA0;exact rfl;exact rfl;exact rfl;(with_reducible exact zE3);exact rfl;exact rfl;exact rfl;exact rfl)|(apply zAU;exact rfl)|apply zAJ|apply zAT|apply zAN|apply eb_n
    all_goals rfl
end Go.Proofs.YtblomnkamngnbaaGreatDoor
