import Derived.Test.YtcagoomibpcdlaaGreatDoorMAK
set_option maxHeartbeats 16000000
namespace Go.Proofs.YtcagoomibpcdlaaGreatDoor
open _root_.Go.Proofs.Tryz
open Go.Sx Go.Vm
def zGg(o:Int): Bool:=decide (0<=o)&&decide (o<21)
def zHk(n:Int): Bool:=decide (0<=n)&&decide (n<=1048576)
def zHD(o:Int): Bool:=zGg o&&decide (o>=15)
def zKJ(o:Int): Int:=if zGg o then opNums.getD o.toNat 0 else 0
def hasA(o:Int): Bool:=decide (zKJ o>0)||zHD o
def hasB(o:Int): Bool:=decide (zKJ o=2)||(decide (zKJ o=1)&&zHD o)
def zJV(i:Ins): Bool:=zGg i.op&&zHk i.a&&zHk i.b&&(hasA i.op||decide (i.a=0))&&(hasB i.op||decide (i.b=0))
def insE(i:Ins): Int:=if zJV i then 0 else 150
theorem zVB(St:Stab)(w:World)(h:Glob St w): (∀o,St 0 o)/\∃e,w.heap[0]?=some (.cells (opNums.map fun z=>Value.int .i64 z).toArray e (0,0)):=⟨h.1.1 _ (by decide),h.1.2⟩
theorem zYO: zSw prog 223=some (21,1):=by kernel_rfl
attribute [local irreducible] zAL Program.underlying Ylds zA2 alex zBZ zBP awp zAb zBh zBg zAW zBF zAp zCO zBG zBR zAr zBV zBY zBe zCQ zBM zA8 zBE
theorem zNF(o:Int): zAb prog 149 [i64 o] (bl (zGg o)):=by
 refine zAj func149 rfl ntmps149 results149 rfl ?_
 intro wb St0
 unfold zGg
 by_cases h:o>=0
 ·rw[decide_eq_true h]
  exact yU
 ·rw[decide_eq_false (by omega)]
  exact yC
theorem zNk(o:Int): zAb prog 150 [i64 o] (bl (zHk o)):=by
 refine zAj func150 rfl ntmps150 results150 rfl ?_
 intro wb St0
 unfold zHk
 by_cases h:o>=0
 ·rw[decide_eq_true h]
  exact yU
 ·rw[decide_eq_false (by omega)]
  exact yC
theorem zU9(o:Int): zAb prog 118 [i64 o] (bl (zHD o)):=by
 have hK:=zNF o
 refine zAj func118 rfl ntmps118 results118 rfl ?_
 intro wb St0
 unfold zHD
 cases hk:zGg o
 all_goals
  rw[hk]at hK
  skip
  exact yU
theorem zSZ(o:Int): zAb prog 148 [i64 o] (i64 (zKJ o)):=by
 have hK:=zNF o
 refine zAj func148 rfl ntmps148 results148 rfl ?_
 intro wb St0
 unfold zKJ
 cases hk:zGg o with
 |false =>
  rw[hk]at hK
  repeat' first|apply en_n|apply zAE|apply zAA|apply zAB|apply w0|exact ycA zEC hK|refine ayA rfl ?_|apply ay (hd:=rfl)|refine zAJ rfl ?_|apply zAM|apply en_r|apply zAS|refine res1 rfl ?_
  all_goals rfl
 |true =>
  rw[hk]at hK
  have hr:0<=o/\o<21:=by unfold zGg at hk;simpa using hk
  have hv:opNums[o.toNat]?=some (opNums.getD o.toNat 0):=by
   have hl:o.toNat<opNums.length:=by show o.toNat<21;omega
   rw[qAD,qAB hl];rfl
  skip
  repeat' first|apply en_n|apply zAE|apply zAA|apply zAB|apply w0|exact ycA zEC hK|(refine zQJ zVB rfl zYO hr hv)|refine ayA rfl ?_|apply ay (hd:=rfl)|refine zAI rfl ?_|apply zAP|apply zAM|apply zAS|refine res1 rfl ?_
  all_goals rfl
theorem zSV(i:Ins): zAb prog 116 [enIn i] (i64 (insE i)):=by
 obtain⟨op,a,b⟩:=i
 have hK:=zNF op
 have hG:=zU9 op
 have hN:=zSZ op
 have hA:=zNk a
 have hB:=zNk b
 unfold insE zJV hasA hasB
 dsimp only
 generalize zGg op=kn at *
 generalize zHD op=gn at *
 generalize zKJ op=nn at *
 generalize zHk a=wa at *
 generalize zHk b=wb at *
 refine zAj func116 rfl ntmps116 results116 rfl ?_
 intro wb' St0
 unfold enIn
 cases kn
 ·skip
  exact yC
 ·cases wa
  ·skip
   exact yC
  ·cases wb
   ·skip
    exact yC
   ·cases gn
    ·skip
     exact yE
    ·skip
     exact yE
