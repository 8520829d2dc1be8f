/- Parts. -/
import Derived.Test.YtjcgiiedaccjpaaGreatDoorMAJ
set_option maxHeartbeats 16000000
namespace Go.Proofs.YtjcgiiedaccjpaaGreatDoor
open _root_.Go.Proofs.Tryz
open Go.Sx
attribute [local irreducible] zAK Program.underlying Ylds zA3 alex zBc zBL awp zAc zBd zBi zBD zBI zBS zA5 zBT zBY zBe zBs zBN
theorem zQ1(s:List UInt8): zAc prog 39 [str s] (bl (zNO s)):=by
 refine zAX func39 rfl ntmps39 results39 rfl ?_
 intro wb St0
 exact yM
theorem zTC(s:List UInt8): zAc prog 40 [str s] (bl (conF s)):=by
 refine zAX func40 rfl ntmps40 results40 rfl ?_
 intro wb St0
 repeat' first|apply en_n|apply zAE|apply zAA|apply zAD|apply w0|exact zAf zLK zLy (PD_d rfl rfl (PD_d rfl rfl zA6)) rfl|(refine zAU zF6 (zGM ⟨2,s,0,0⟩) (CoLA rfl))|apply ay (hd:=rfl)|exact zAC rfl|exact zAB rfl|apply zAM|apply zAL|refine res1 rfl ?_
 rfl
theorem zRH(n want:Int): zAc prog 223 [i64 n,.ref [i64 want]] (bl (decide (n=want))):=by
 refine zAX func223 rfl ntmps223 results223 rfl ?_
 intro wb St0
 exact yU
abbrev zNQ(n:Int): D:=.clo 223 [.ref [i64 n]]
theorem zJA(n:Int): zAc prog 189 [i64 n] (zNQ n):=by
 refine zAX func189 rfl ntmps189 results189 rfl ?_
 intro wb St0
 exact yU
theorem zF3(n want:Int): VCall prog (zNQ want) [i64 n] (bl (decide (n=want))):=⟨_,_,rfl,zRR,zRH n want⟩
theorem zNb(n:Int): zAc prog 190 [i64 n] (bl (decide (3<=n/\n%2=1))):=by
 refine zAX func190 rfl ntmps190 results190 rfl ?_
 intro wb St0
 repeat' first|apply en_n|apply zAE|apply zAA|apply zAD|apply w0|refine k1u (hd:=rfl) rfl rfl ?_|(apply zSK;exact rfl;exact rfl;exact(by decide))|apply ay (hd:=rfl)|exact zAC rfl|exact zAB rfl|exact zFn rfl rfl|exact zEA rfl rfl|exact zAi rfl rfl|exact zAj rfl rfl|refine w1 rfl rfl ?_|(apply gD;exact rfl;exact rfl;all_goals intro hb)|apply zAM|apply zAL|refine res1 rfl ?_
 ·refine zBo ?_
  rw[Int.tmod_eq_emod_of_nonneg (by omega),decide_eq_decide];omega
 ·refine zBo ?_
  symm;rw[decide_eq_false_iff_not];omega
theorem zNa(n:Int): zAc prog 191 [i64 n] (bl true):=by
 refine zAX func191 rfl ntmps191 results191 rfl ?_
 intro wb St0
 exact yM
theorem zFG(k:Int): zAc prog 134 [i64 k] (bl (patK k)):=by
 refine zAX func134 rfl ntmps134 results134 rfl ?_
 intro wb St0
 repeat' first|apply en_n|apply zAE|apply zAA|apply zAD|apply w0|refine k1u (hd:=rfl) rfl rfl ?_|apply ay (hd:=rfl)|exact zAC rfl|exact zAB rfl|exact zJg rfl rfl|exact zFn rfl rfl|exact zAi rfl rfl|exact zAj rfl rfl|refine w1 rfl rfl ?_|(apply gD;exact rfl;exact rfl;all_goals intro hb)|apply zAM|apply zAL|refine res1 rfl ?_
 ·refine zBo ?_
  rw[patK,decide_eq_decide];omega
 ·refine zBo ?_
  symm;rw[patK,decide_eq_false_iff_not];omega
def zTK(k:Int): D :=
 if k=1\/k=23\/k=2\/k=3\/k=22\/k=4\/k=21 then zNQ 0
 else if k=5\/k=11 then zNQ 1 else if k=7\/k=8\/k=12\/k=6 then zNQ 2 else if k=9 then zNQ 3
 else if k=10 then .clo 190 []else .clo 191 []
def zMP(k:Int): D :=
 if namK k=true then .clo 39 []else if k=4\/k=24 then .clo 40 []else .val .nilFunc
def zRb(k:Int): D :=
 if okK k=true then .agg [bl (numK k),bl (decide (k=2)),zMP k,zTK k,bl true]else .agg [bl false,bl false,.val .nilFunc,.val .nilFunc,bl false]
theorem zPB(k n:Int)(h:okK k=true): VCall prog (zTK k) [i64 n] (bl (cntK k n)):=by
 unfold zTK
 split
 ·rename_i c
  have e:cntK k n=decide (n=0):=by
   unfold cntK
   rw[if_neg (by omega),if_neg (by omega),if_neg (by omega),if_neg (by omega),if_neg (by omega)]
  rw[e];exact zF3 n 0
 ·split
  ·rename_i c
   rw[cntK,if_pos c];exact zF3 n 1
  ·split
   ·rename_i c
    rw[cntK,if_neg (by omega),if_pos (by omega)];exact zF3 n 2
   ·split
    ·rename_i c
     rw[cntK,if_neg (by omega),if_neg (by omega),if_pos c];exact zF3 n 3
    ·split
     ·rename_i c
      rw[cntK,if_neg (by omega),if_neg (by omega),if_neg (by omega),if_pos c];exact⟨_,_,rfl,zNT,zNb n⟩
     ·have h2:=of_decide_eq_true h
      rw[cntK,if_neg (by omega),if_neg (by omega),if_neg (by omega),if_neg (by omega),if_pos (by omega)];exact⟨_,_,rfl,zNS,zNa n⟩
theorem zJ4{k:Int}(h:okK k=true): k=1\/k=2\/k=3\/k=4\/k=5\/k=6\/k=7\/k=8\/k=9\/k=10\/k=11\/k=12\/k=21\/k=22\/k=23\/k=24:=by
 have:=of_decide_eq_true h;omega
theorem zPd(k:Int): zAc prog 168 [i64 k] (zRb k):=by
 have j0:=zJA 0
 have j1:=zJA 1
 have j2:=zJA 2
 have j3:=zJA 3
 refine zET func168 rfl ntmps168 results168 rfl ?_
 intro wb St0
 cases hok:okK k with
 |true =>
  rcases zJ4 hok with rfl|rfl|rfl|rfl|rfl|rfl|rfl|rfl|rfl|rfl|rfl|rfl|rfl|rfl|rfl|rfl
  all_goals
   repeat' first|apply en_n|apply zAE|apply zAA|apply zAD|apply w0|exact zBU rfl rfl|exact zBW rfl rfl|(refine zAU zJC j0 (CoLA rfl))|(refine zAU zJC j1 (CoLA rfl))|(refine zAU zJC j2 (CoLA rfl))|(refine zAU zJC j3 (CoLA rfl))|exact zAf zGW zDL (PD_d rfl rfl (PD_d rfl rfl (PD_d rfl rfl zA6))) rfl|exact zAf zGW zDL (PD_c rfl (PD_d rfl rfl (PD_d rfl rfl zA6))) rfl|exact zAf zGW zDL (PD_c rfl (PD_c rfl (PD_d rfl rfl zA6))) rfl|exact zAf zGW zDL (PD_d rfl rfl (PD_d rfl rfl zA6)) rfl|exact zAf zGW zDL (PD_c rfl (PD_d rfl rfl zA6)) rfl|(refine zB6 ?_)|(refine zI1 ?_)|(refine RV_c rfl rfl zEg rfl rfl zEf ?_)|(apply zBF (hd:=rfl) (hro:=rfl);(with_reducible exact zDL))|apply ay (hd:=rfl)|exact zAC rfl|exact zAB rfl|(refine w0' ?_)|(apply zAl;exact rfl;exact rfl;exact rfl;(with_reducible exact zEg);exact rfl;exact rfl;exact rfl;exact rfl)|refine zAN rfl ?_|refine zAQ rfl ?_|apply zAI|apply zAO|apply zAM|apply en_r|apply eb_r
  all_goals rfl
 |false =>
  have h1:=of_decide_eq_false hok
  have n1:¬k=1:=by omega
  rw[zRb,if_neg (by rw[hok];decide)]
  repeat' first|apply en_n|apply zAE|apply zAA|apply zAD|apply w0|exact zBW rfl rfl|exact zAf zGW zDL zA6 rfl|(refine zB6 ?_)|(refine zI1 ?_)|(refine RV_c rfl rfl zEg rfl rfl zEf ?_)|(apply zBF (hd:=rfl) (hro:=rfl);(with_reducible exact zDL))|apply ay (hd:=rfl)|exact zAC rfl|exact zAB rfl|(refine w0' ?_)|(apply zAl;exact rfl;exact rfl;exact rfl;(with_reducible exact zEg);exact rfl;exact rfl;exact rfl;exact rfl)|refine zAQ rfl ?_|apply zAI|apply zAO|apply zAM|apply eb_n
  all_goals rfl
