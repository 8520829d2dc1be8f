/- Parts of the proof. -/
import Derived.Test.YtcagoomibpcdlaaGreatDoorMAO
set_option maxHeartbeats 16000000
namespace Go.Proofs.YtcagoomibpcdlaaGreatDoor
open _root_.Go.Proofs.Tryz
open Go.Sx Go.Vm
def zFS(o:Int): Bool:=decide (0<=o)&&decide (o<21)
def zGL(n:Int): Bool:=decide (0<=n)&&decide (n<=1048576)
def zFt(o:Int): Bool:=zFS o&&decide (o>=15)
def zIV(o:Int): Int:=if zFS o then opNums.getD o.toNat 0 else 0
def hasA(o:Int): Bool:=decide (zIV o>0)||zFt o
def hasB(o:Int): Bool:=decide (zIV o=2)||(decide (zIV o=1)&&zFt o)
def zHp(i:Ins): Bool:=zFS i.op&&zGL i.a&&zGL i.b&&(hasA i.op||decide (i.a=0))&&(hasB i.op||decide (i.b=0))
def insE(i:Ins): Int:=if zHp i then 0 else 150
theorem zRX(St:Stab)(w:World)(h:Glob St w): (∀o,St 0 o)/\∃e,w.heap[0]?=some (.cells (opNums.map fun z=>Value.int .i64 z).toArray e (0,0)):=⟨h.1.1 _ (by decide),h.1.2⟩
theorem zUZ: zPm prog 223=some (21,1):=by kernel_rfl
attribute [local irreducible] zAN Program.underlying Ylds zA9 alex zB3 zBf awp zAi zCC zCB zAU zBl zAz zDt zBq zBj zBB zBr zB2 zB8 zD7 zBi zBd zBg
theorem zKy(o:Int): zAi prog 149 [i64 o] (bl (zFS o)):=by
 refine zAs func149 rfl ntmps149 results149 rfl ?_
 intro wb St0
 unfold zFS
 by_cases h:o>=0
 ·rw[decide_eq_true h]
  repeat' first|apply en_n|apply zAH|apply zAA|apply zAD|apply w0|exact zJo rfl rfl|apply ay (hd:=rfl)|exact zAF rfl|exact zAB rfl|exact zEw rfl rfl|exact zAa rfl rfl|refine w1 rfl rfl ?_|apply zAQ|apply zAR|refine res1 rfl ?_
  all_goals rfl
 ·rw[decide_eq_false (by omega)]
  repeat' first|apply en_n|apply zAH|apply zAA|apply zAD|apply w0|(apply k1u (hd:=rfl);exact rfl;exact rfl)|exact zIP rfl rfl|apply ay (hd:=rfl)|exact zAF rfl|exact zAB rfl|exact zAX rfl rfl|apply zAQ|apply zAR|refine res1 rfl ?_
  all_goals rfl
theorem zLI(o:Int): zAi prog 150 [i64 o] (bl (zGL o)):=by
 refine zAs func150 rfl ntmps150 results150 rfl ?_
 intro wb St0
 unfold zGL
 by_cases h:o>=0
 ·rw[decide_eq_true h]
  repeat' first|apply en_n|apply zAH|apply zAA|apply zAD|apply w0|exact zJo rfl rfl|apply ay (hd:=rfl)|exact zAF rfl|exact zAB rfl|exact zIY rfl rfl|exact zAa rfl rfl|refine w1 rfl rfl ?_|apply zAQ|apply zAR|refine res1 rfl ?_
  all_goals rfl
 ·rw[decide_eq_false (by omega)]
  repeat' first|apply en_n|apply zAH|apply zAA|apply zAD|apply w0|(apply k1u (hd:=rfl);exact rfl;exact rfl)|exact zIP rfl rfl|apply ay (hd:=rfl)|exact zAF rfl|exact zAB rfl|exact zAX rfl rfl|apply zAQ|apply zAR|refine res1 rfl ?_
  all_goals rfl
theorem zRU(o:Int): zAi prog 118 [i64 o] (bl (zFt o)):=by
 have hK:=zKy o
 refine zAs func118 rfl ntmps118 results118 rfl ?_
 intro wb St0
 unfold zFt
 cases hk:zFS o
 all_goals
  rw[hk]at hK
  skip
  repeat' first|apply en_n|apply zAH|apply zAA|apply zAD|apply w0|(apply k1u (hd:=rfl);exact rfl;exact rfl)|(refine zAb zDX hK (zAY rfl zAM))|apply ay (hd:=rfl)|exact zAF rfl|exact zAB rfl|exact zJp rfl rfl|exact zAa rfl rfl|exact zAX rfl rfl|refine w1 rfl rfl ?_|apply zAQ|apply zAR|refine res1 rfl ?_
  all_goals rfl
theorem zPR(o:Int): zAi prog 148 [i64 o] (i64 (zIV o)):=by
 have hK:=zKy o
 refine zAs func148 rfl ntmps148 results148 rfl ?_
 intro wb St0
 unfold zIV
 cases hk:zFS o with
 |false =>
  rw[hk]at hK
  repeat' first|apply en_n|apply zAH|apply zAA|apply zAD|apply w0|(refine zAb zDX hK (zAY rfl zAM))|apply ay (hd:=rfl)|exact zAF rfl|exact zAB rfl|exact zBX rfl|refine zAI rfl ?_|apply zAQ|apply en_r|apply zAR|refine res1 rfl ?_
  all_goals rfl
 |true =>
  rw[hk]at hK
  have hr:0<=o/\o<21:=by unfold zFS at hk;simpa using hk
  have hv:opNums[o.toNat]?=some (opNums.getD o.toNat 0):=by
   have hl:o.toNat<opNums.length:=by show o.toNat<21;omega
   rw[qAD,qAB hl];rfl
  skip
  repeat' first|apply en_n|apply zAH|apply zAA|apply zAD|apply w0|(refine zAb zDX hK (zAY rfl zAM))|(refine zNS zRX rfl zUZ hr hv)|apply ay (hd:=rfl)|exact zAF rfl|exact zAB rfl|exact zCb rfl zAP|exact zBX rfl|refine zAJ rfl ?_|apply zAS|apply zAQ|apply zAR|refine res1 rfl ?_
  all_goals rfl
theorem zPO(i:Ins): zAi prog 116 [enIn i] (i64 (insE i)):=by
 obtain⟨op,a,b⟩:=i
 have hK:=zKy op
 have hG:=zRU op
 have hN:=zPR op
 have hA:=zLI a
 have hB:=zLI b
 unfold insE zHp hasA hasB
 dsimp only
 generalize zFS op=kn at *
 generalize zFt op=gn at *
 generalize zIV op=nn at *
 generalize zGL a=wa at *
 generalize zGL b=wb at *
 refine zAs func116 rfl ntmps116 results116 rfl ?_
 intro wb' St0
 unfold enIn
 cases kn
 ·skip
  repeat' first|apply en_n|apply zAH|apply zAA|apply zAD|apply w0|(apply kU (hd:=rfl);exact rfl;exact rfl)|(apply k1u (hd:=rfl);exact rfl;exact rfl)|(apply k0u (hd:=rfl);exact rfl;exact rfl)|(refine zAb zDX hK (zAY rfl zAM))|(refine zAb zEz hG (zAY rfl zAM))|(refine zAb zEG hN (zAY rfl zAM))|(apply aBox (hd:=rfl) (hro:=rfl);exact rfl;exact rfl)|apply ay (hd:=rfl)|exact zAF rfl|exact zAB rfl|exact zGG rfl rfl|exact zFN rfl rfl|exact zBX rfl|exact zAa rfl rfl|exact zAX rfl rfl|exact zAC rfl zBA|exact zAE rfl zAd rfl rfl|refine w1 rfl rfl ?_|(apply gD;exact rfl;exact rfl;all_goals intro hb)|refine zAI rfl ?_|apply zAQ|apply en_r|apply zAR|refine res1 rfl ?_
  all_goals rfl
 ·cases wa
  ·skip
   repeat' first|apply en_n|apply zAH|apply zAA|apply zAD|apply w0|(apply kU (hd:=rfl);exact rfl;exact rfl)|(apply k1u (hd:=rfl);exact rfl;exact rfl)|(apply k0u (hd:=rfl);exact rfl;exact rfl)|(refine zAb zDX hK (zAY rfl zAM))|(refine zAb zEz hG (zAY rfl zAM))|(refine zAb zEG hN (zAY rfl zAM))|(refine zAb zDW hA (zAY rfl zAM))|(apply aBox (hd:=rfl) (hro:=rfl);exact rfl;exact rfl)|apply ay (hd:=rfl)|exact zAF rfl|exact zAB rfl|exact zGG rfl rfl|exact zFN rfl rfl|exact zBX rfl|exact zAa rfl rfl|exact zAX rfl rfl|(apply zAC;exact rfl;(with_reducible first|exact zBA|exact zAp))|(apply zAE;exact rfl;(with_reducible first|exact zAd|exact zAP);exact rfl;exact rfl)|refine w1 rfl rfl ?_|(apply gD;exact rfl;exact rfl;all_goals intro hb)|refine zAI rfl ?_|apply zAQ|apply en_r|apply zAR|refine res1 rfl ?_
   all_goals rfl
  ·cases wb
   ·skip
    repeat' first|apply en_n|apply zAH|apply zAA|apply zAD|apply w0|(apply kU (hd:=rfl);exact rfl;exact rfl)|(apply k1u (hd:=rfl);exact rfl;exact rfl)|(apply k0u (hd:=rfl);exact rfl;exact rfl)|(refine zAb zDX hK (zAY rfl zAM))|(refine zAb zEz hG (zAY rfl zAM))|(refine zAb zEG hN (zAY rfl zAM))|(refine zAb zDW hA (zAY rfl zAM))|(refine zAb zDW hB (zAY rfl zAM))|(apply aBox (hd:=rfl) (hro:=rfl);exact rfl;exact rfl)|apply ay (hd:=rfl)|exact zAF rfl|exact zAB rfl|exact zGG rfl rfl|exact zFN rfl rfl|exact zBX rfl|exact zAa rfl rfl|exact zAX rfl rfl|(apply zAC;exact rfl;(with_reducible first|exact zBA|exact zAp|exact zCY))|(apply zAE;exact rfl;(with_reducible first|exact zAd|exact zAP);exact rfl;exact rfl)|refine w1 rfl rfl ?_|(apply gD;exact rfl;exact rfl;all_goals intro hb)|refine zAI rfl ?_|apply zAQ|apply en_r|apply zAR|refine res1 rfl ?_
    all_goals rfl
   ·cases gn
    ·skip
     repeat' first|apply en_n|apply zAH|apply zAA|apply zAD|apply w0|(apply kU (hd:=rfl);exact rfl;exact rfl)|(apply k1u (hd:=rfl);exact rfl;exact rfl)|(apply k0u (hd:=rfl);exact rfl;exact rfl)|(refine zAb zDX hK (zAY rfl zAM))|(refine zAb zEz hG (zAY rfl zAM))|(refine zAb zEG hN (zAY rfl zAM))|(refine zAb zDW hA (zAY rfl zAM))|(refine zAb zDW hB (zAY rfl zAM))|(apply aBox (hd:=rfl) (hro:=rfl);exact rfl;exact rfl)|apply ay (hd:=rfl)|exact zAF rfl|exact zAB rfl|exact zGG rfl rfl|exact zFN rfl rfl|exact zIG rfl rfl|exact zBX rfl|exact zAa rfl rfl|exact zAX rfl rfl|(apply zAC;exact rfl;(with_reducible first|exact zBA|exact zAp|exact zCY))|(apply zAE;exact rfl;(with_reducible first|exact zAd|exact zAP);exact rfl;exact rfl)|refine w1 rfl rfl ?_|(apply gD;exact rfl;exact rfl;all_goals intro hb)|(apply zBT;exact rfl;all_goals intro hb)|refine zAI rfl ?_|refine zAJ rfl ?_|apply zAS|apply zAQ|apply en_r|apply zAR|refine res1 rfl ?_
     all_goals first|(simp_all;done)|(simp_all;omega)
    ·skip
     repeat' first|apply en_n|apply zAH|apply zAA|apply zAD|apply w0|(apply kU (hd:=rfl);exact rfl;exact rfl)|(apply k1u (hd:=rfl);exact rfl;exact rfl)|(apply k0u (hd:=rfl);exact rfl;exact rfl)|(refine zAb zDX hK (zAY rfl zAM))|(refine zAb zEz hG (zAY rfl zAM))|(refine zAb zEG hN (zAY rfl zAM))|(refine zAb zDW hA (zAY rfl zAM))|(refine zAb zDW hB (zAY rfl zAM))|(apply aBox (hd:=rfl) (hro:=rfl);exact rfl;exact rfl)|apply ay (hd:=rfl)|exact zAF rfl|exact zAB rfl|exact zGG rfl rfl|exact zFN rfl rfl|exact zIG rfl rfl|exact zBX rfl|exact zAa rfl rfl|exact zAX rfl rfl|(apply zAC;exact rfl;(with_reducible first|exact zBA|exact zAp|exact zCY))|(apply zAE;exact rfl;(with_reducible first|exact zAd|exact zAP);exact rfl;exact rfl)|refine w1 rfl rfl ?_|(apply gD;exact rfl;exact rfl;all_goals intro hb)|(apply zBT;exact rfl;all_goals intro hb)|refine zAJ rfl ?_|apply zAS|apply zAQ|apply en_r|apply zAR|refine res1 rfl ?_
     all_goals first|(simp_all;done)|(simp_all;omega)
end Go.Proofs.YtcagoomibpcdlaaGreatDoor
