/- Parts. -/
import Derived.Test.YtjcgiiedaccjpaaGreatDoorPAJ
set_option maxHeartbeats 16000000
namespace Go.Proofs.YtjcgiiedaccjpaaGreatDoor
open _root_.Go.Proofs.Tryz
open Go.Sx
attribute [local irreducible] zAQ Program.underlying Ylds zBJ alex zBk zBZ awp zAX FCall zBo zBR zBX zBb zBD zBd zBj zBn zBu zBP
theorem zQp(s:List UInt8): zAX prog 39 [str s] (bl (zGw s)):=by
 refine zAc func39 rfl ntmps39 results39 rfl ?_
 intro wb St0
 exact yZ
theorem zPh(s:List UInt8): zAX prog 40 [str s] (bl (conF s)):=by
 refine zAc func40 rfl ntmps40 results40 rfl ?_
 intro wb St0
 repeat' first|apply en_n|apply zAE|apply zAA|apply zAD|apply w0|exact zAo zKh zEq (PD_d rfl rfl (PD_d rfl rfl zBE)) rfl|exact ycA zIl (zI4 ⟨2,s,0,0⟩)|refine ayA rfl ?_|apply ay (hd:=rfl)|apply zAN|apply zAO|refine res1 rfl ?_
 rfl
theorem zXI(n want:Int): zAX prog 223 [i64 n,.ref [i64 want]] (bl (decide (n=want))):=by
 refine zAc func223 rfl ntmps223 results223 rfl ?_
 intro wb St0
 exact yh
abbrev zSR(n:Int): D:=.clo 223 [.ref [i64 n]]
theorem zMn(n:Int): zAX prog 189 [i64 n] (zSR n):=by
 refine zAc func189 rfl ntmps189 results189 rfl ?_
 intro wb St0
 exact yh
theorem zIg(n want:Int): VCall prog (zSR want) [i64 n] (bl (decide (n=want))):=⟨_,_,rfl,zXR,zXI n want⟩
theorem zSf(n:Int): zAX prog 190 [i64 n] (bl (decide (3<=n/\n%2=1))):=by
 refine zAc func190 rfl ntmps190 results190 rfl ?_
 intro wb St0
 repeat' first|apply en_n|apply zAE|apply zAA|apply zAD|apply w0|refine k1u (hd:=rfl) rfl rfl ?_|(apply zLa;exact rfl;exact rfl;exact dC)|refine ayA rfl ?_|apply ay (hd:=rfl)|exact zFU rfl rfl|exact zDz rfl rfl|refine w1 rfl rfl ?_|(apply gD;exact rfl;exact rfl;all_goals intro hb)|apply zAN|apply zAO|refine res1 rfl ?_
 ·refine zCX ?_
  rw[Int.tmod_eq_emod_of_nonneg oM,decide_eq_decide];omega
 ·refine zCX ?_
  symm;rw[decide_eq_false_iff_not];omega
theorem zSe(n:Int): zAX prog 191 [i64 n] (bl true):=by
 refine zAc func191 rfl ntmps191 results191 rfl ?_
 intro wb St0
 exact yI
theorem zHY(k:Int): zAX prog 134 [i64 k] (bl (patK k)):=by
 refine zAc func134 rfl ntmps134 results134 rfl ?_
 intro wb St0
 repeat' first|apply en_n|apply zAE|apply zAA|apply zAD|apply w0|refine k1u (hd:=rfl) rfl rfl ?_|refine ayA rfl ?_|apply ay (hd:=rfl)|exact zI3 rfl rfl|exact zFU rfl rfl|refine w1 rfl rfl ?_|(apply gD;exact rfl;exact rfl;all_goals intro hb)|apply zAN|apply zAO|refine res1 rfl ?_
 ·refine zCX ?_
  rw[patK,decide_eq_decide];omega
 ·refine zCX ?_
  symm;rw[patK,decide_eq_false_iff_not];omega
def zZx(k:Int): D :=
 if k=1\/k=23\/k=2\/k=3\/k=22\/k=4\/k=21 then zSR 0
 else if k=5\/k=11 then zSR 1 else if k=7\/k=8\/k=12\/k=6 then zSR 2 else if k=9 then zSR 3
 else if k=10 then .clo 190 []else .clo 191 []
def zQ0(k:Int): D :=
 if namK k=true then .clo 39 []else if k=4\/k=24 then .clo 40 []else .val .nilFunc
def zXf(k:Int): D :=
 if okK k=true then .agg [bl (numK k),bl (decide (k=2)),zQ0 k,zZx k,bl true]else .agg [bl false,bl false,.val .nilFunc,.val .nilFunc,bl false]
theorem zUZ(k n:Int)(h:okK k=true): VCall prog (zZx k) [i64 n] (bl (cntK k n)):=by
 unfold zZx
 split
 ·rename_i c
  have e:cntK k n=decide (n=0):=by
   unfold cntK
   rw[if_neg oM,if_neg oM,if_neg oM,if_neg oM,if_neg oM]
  rw[e];exact zIg n 0
 ·split
  ·rename_i c
   rw[cntK,if_pos c];exact zIg n 1
  ·split
   ·rename_i c
    rw[cntK,if_neg oM,if_pos oM];exact zIg n 2
   ·split
    ·rename_i c
     rw[cntK,if_neg oM,if_neg oM,if_pos c];exact zIg n 3
    ·split
     ·rename_i c
      rw[cntK,if_neg oM,if_neg oM,if_neg oM,if_pos c];exact⟨_,_,rfl,zSW,zSf n⟩
     ·have h2:=of_decide_eq_true h
      rw[cntK,if_neg oM,if_neg oM,if_neg oM,if_neg oM,if_pos oM];exact⟨_,_,rfl,zSV,zSe n⟩
theorem zIc{k:Int}(h:okK k=true): k=1\/k=2\/k=3\/k=4\/k=5\/k=6\/k=7\/k=8\/k=9\/k=10\/k=11\/k=12\/k=21\/k=22\/k=23\/k=24:=by
 have:=of_decide_eq_true h;omega
theorem zVD(k:Int): zAX prog 168 [i64 k] (zXf k):=by
 have j0:=zMn 0
 have j1:=zMn 1
 have j2:=zMn 2
 have j3:=zMn 3
 refine zBw func168 rfl ntmps168 results168 rfl ?_
 intro wb St0
 cases hok:okK k with
 |true =>
  rcases zIc hok with rfl|rfl|rfl|rfl|rfl|rfl|rfl|rfl|rfl|rfl|rfl|rfl|rfl|rfl|rfl|rfl
  all_goals
   repeat' first|apply en_n|apply zAE|apply zAA|apply zAD|apply w0|exact ycA zMt j0|exact ycA zMt j1|exact ycA zMt j2|exact ycA zMt j3|exact zAo zJG zEu (PD_d rfl rfl (PD_d rfl rfl (PD_d rfl rfl zBE))) rfl|exact zAo zJG zEu (PD_c rfl (PD_d rfl rfl (PD_d rfl rfl zBE))) rfl|exact zAo zJG zEu (PD_c rfl (PD_c rfl (PD_d rfl rfl zBE))) rfl|exact zAo zJG zEu (PD_d rfl rfl (PD_d rfl rfl zBE)) rfl|exact zAo zJG zEu (PD_c rfl (PD_d rfl rfl zBE)) rfl|(refine zAv ?_)|(refine zGA ?_)|(refine RV_c rfl rfl zGs rfl rfl zBg ?_)|refine aAlA ?_|refine ayA rfl ?_|refine ayQ rfl ?_|apply ay (hd:=rfl)|(refine w0' ?_)|refine aStA ?_|refine zAJ rfl ?_|refine zAK rfl ?_|apply zAH|apply zAM|apply zAN|apply en_r|apply eb_r
  all_goals rfl
 |false =>
  have h1:=of_decide_eq_false hok
  have n1:¬k=1:=by omega
  rw[zXf,if_neg (by rw[hok];decide)]
  repeat' first|apply en_n|apply zAE|apply zAA|apply zAD|apply w0|exact zAo zJG zEu zBE rfl|(refine zAv ?_)|(refine zGA ?_)|(refine RV_c rfl rfl zGs rfl rfl zBg ?_)|refine aAlA ?_|refine ayA rfl ?_|refine ayQ rfl ?_|apply ay (hd:=rfl)|(refine w0' ?_)|refine aStA ?_|refine zAK rfl ?_|apply zAH|apply zAM|apply zAN|apply eb_n
  all_goals rfl
