/- Parts of the proof. -/
import Derived.Test.YtcagoomibpcdlaaGreatDoorMAN
set_option maxHeartbeats 16000000
namespace Go.Proofs.YtcagoomibpcdlaaGreatDoor
open _root_.Go.Proofs.Tryz
open Go.Sx Go.Vm
def zFW(o:Int): Bool:=decide (0<=o)&&decide (o<21)
def zGN(n:Int): Bool:=decide (0<=n)&&decide (n<=1048576)
def zFz(o:Int): Bool:=zFW o&&decide (o>=15)
def zIm(o:Int): Int:=if zFW o then opNums.getD o.toNat 0 else 0
def hasA(o:Int): Bool:=decide (zIm o>0)||zFz o
def hasB(o:Int): Bool:=decide (zIm o=2)||(decide (zIm o=1)&&zFz o)
def zH1(i:Ins): Bool:=zFW i.op&&zGN i.a&&zGN i.b&&(hasA i.op||decide (i.a=0))&&(hasB i.op||decide (i.b=0))
def insE(i:Ins): Int:=if zH1 i then 0 else 150
theorem zSJ(St:Stab)(w:World)(h:Glob St w): (∀o,St 0 o)/\∃e,w.heap[0]?=some (.cells (opNums.map fun z=>Value.int .i64 z).toArray e (0,0)):=⟨h.1.1 _ (by decide),h.1.2⟩
theorem zVH: zQP prog 223=some (21,1):=by kernel_rfl
attribute [local irreducible] zAO Program.underlying Ylds zBE alex zB0 zBk awp zAg zB9 zB8 zAU zBj zA6 zDJ zBl zBn zBC zBq zBz zB7 zDQ zBm zBc zBe
theorem zLS(o:Int): zAg prog 149 [i64 o] (bl (zFW o)):=by
 refine zAr func149 rfl ntmps149 results149 rfl ?_
 intro wb St0
 unfold zFW
 by_cases h:o>=0
 ·rw[decide_eq_true h]
  repeat' first|apply en_n|apply zAG|apply zAA|apply zAD|apply w0|exact zHL rfl rfl|apply ay (hd:=rfl)|exact zAF rfl|exact zAB rfl|exact zEM rfl rfl|exact zAZ rfl rfl|refine w1 rfl rfl ?_|apply zAQ|apply zAT|refine res1 rfl ?_
  all_goals rfl
 ·rw[decide_eq_false (by omega)]
  repeat' first|apply en_n|apply zAG|apply zAA|apply zAD|apply w0|refine k1u (hd:=rfl) rfl rfl ?_|exact zGm rfl rfl|apply ay (hd:=rfl)|exact zAF rfl|exact zAB rfl|exact zAV rfl rfl|apply zAQ|apply zAT|refine res1 rfl ?_
  all_goals rfl
theorem zLo(o:Int): zAg prog 150 [i64 o] (bl (zGN o)):=by
 refine zAr func150 rfl ntmps150 results150 rfl ?_
 intro wb St0
 unfold zGN
 by_cases h:o>=0
 ·rw[decide_eq_true h]
  repeat' first|apply en_n|apply zAG|apply zAA|apply zAD|apply w0|exact zHL rfl rfl|apply ay (hd:=rfl)|exact zAF rfl|exact zAB rfl|exact zGk rfl rfl|exact zAZ rfl rfl|refine w1 rfl rfl ?_|apply zAQ|apply zAT|refine res1 rfl ?_
  all_goals rfl
 ·rw[decide_eq_false (by omega)]
  repeat' first|apply en_n|apply zAG|apply zAA|apply zAD|apply w0|refine k1u (hd:=rfl) rfl rfl ?_|exact zGm rfl rfl|apply ay (hd:=rfl)|exact zAF rfl|exact zAB rfl|exact zAV rfl rfl|apply zAQ|apply zAT|refine res1 rfl ?_
  all_goals rfl
theorem zSH(o:Int): zAg prog 118 [i64 o] (bl (zFz o)):=by
 have hK:=zLS o
 refine zAr func118 rfl ntmps118 results118 rfl ?_
 intro wb St0
 unfold zFz
 cases hk:zFW o
 all_goals
  rw[hk]at hK
  skip
  repeat' first|apply en_n|apply zAG|apply zAA|apply zAD|apply w0|refine k1u (hd:=rfl) rfl rfl ?_|(refine zAd zDa hK (CoLA rfl))|apply ay (hd:=rfl)|exact zAF rfl|exact zAB rfl|exact zH9 rfl rfl|exact zAZ rfl rfl|exact zAV rfl rfl|refine w1 rfl rfl ?_|apply zAQ|apply zAT|refine res1 rfl ?_
  all_goals rfl
theorem zP4(o:Int): zAg prog 148 [i64 o] (i64 (zIm o)):=by
 have hK:=zLS o
 refine zAr func148 rfl ntmps148 results148 rfl ?_
 intro wb St0
 unfold zIm
 cases hk:zFW o with
 |false =>
  rw[hk]at hK
  repeat' first|apply en_n|apply zAG|apply zAA|apply zAD|apply w0|(refine zAd zDa hK (CoLA rfl))|apply ay (hd:=rfl)|exact zAF rfl|exact zAB rfl|exact zBS rfl|refine zAI rfl ?_|apply zAQ|apply en_r|apply zAT|refine res1 rfl ?_
  all_goals rfl
 |true =>
  rw[hk]at hK
  have hr:0<=o/\o<21:=by unfold zFW at hk;simpa using hk
  have hv:opNums[o.toNat]?=some (opNums.getD o.toNat 0):=by
   have hl:o.toNat<opNums.length:=by show o.toNat<21;omega
   rw[qAE,qAB hl];rfl
  skip
  repeat' first|apply en_n|apply zAG|apply zAA|apply zAD|apply w0|(refine zAd zDa hK (CoLA rfl))|(refine zN0 zSJ rfl zVH hr hv)|apply ay (hd:=rfl)|exact zAF rfl|exact zAB rfl|exact zCK rfl zAP|exact zBS rfl|refine zAJ rfl ?_|apply zAR|apply zAQ|apply zAT|refine res1 rfl ?_
  all_goals rfl
theorem zP1(i:Ins): zAg prog 116 [enIn i] (i64 (insE i)):=by
 obtain⟨op,a,b⟩:=i
 have hK:=zLS op
 have hG:=zSH op
 have hN:=zP4 op
 have hA:=zLo a
 have hB:=zLo b
 unfold insE zH1 hasA hasB
 dsimp only
 generalize zFW op=kn at *
 generalize zFz op=gn at *
 generalize zIm op=nn at *
 generalize zGN a=wa at *
 generalize zGN b=wb at *
 refine zAr func116 rfl ntmps116 results116 rfl ?_
 intro wb' St0
 unfold enIn
 cases kn
 ·skip
  repeat' first|apply en_n|apply zAG|apply zAA|apply zAD|apply w0|refine kU (hd:=rfl) rfl rfl ?_|refine k1u (hd:=rfl) rfl rfl ?_|refine k0u (hd:=rfl) rfl rfl ?_|(refine zAd zDa hK (CoLA rfl))|(refine zAd zE9 hG (CoLA rfl))|(refine zAd zEI hN (CoLA rfl))|refine aBox (hd:=rfl) (hro:=rfl) rfl rfl ?_|apply ay (hd:=rfl)|exact zAF rfl|exact zAB rfl|exact zGM rfl rfl|exact zE6 rfl rfl|exact zBS rfl|exact zAZ rfl rfl|exact zAV rfl rfl|exact zAC rfl zAv|exact zAE rfl zAa rfl rfl|refine w1 rfl rfl ?_|(apply gD;exact rfl;exact rfl;all_goals intro hb)|refine zAI rfl ?_|apply zAQ|apply en_r|apply zAT|refine res1 rfl ?_
  all_goals rfl
 ·cases wa
  ·skip
   repeat' first|apply en_n|apply zAG|apply zAA|apply zAD|apply w0|refine kU (hd:=rfl) rfl rfl ?_|refine k1u (hd:=rfl) rfl rfl ?_|refine k0u (hd:=rfl) rfl rfl ?_|(refine zAd zDa hK (CoLA rfl))|(refine zAd zE9 hG (CoLA rfl))|(refine zAd zEI hN (CoLA rfl))|(refine zAd zDZ hA (CoLA rfl))|refine aBox (hd:=rfl) (hro:=rfl) rfl rfl ?_|apply ay (hd:=rfl)|exact zAF rfl|exact zAB rfl|exact zGM rfl rfl|exact zE6 rfl rfl|exact zBS rfl|exact zAZ rfl rfl|exact zAV rfl rfl|(apply zAC;exact rfl;(with_reducible first|exact zAv|exact zAl))|(apply zAE;exact rfl;(with_reducible first|exact zAa|exact zAP);exact rfl;exact rfl)|refine w1 rfl rfl ?_|(apply gD;exact rfl;exact rfl;all_goals intro hb)|refine zAI rfl ?_|apply zAQ|apply en_r|apply zAT|refine res1 rfl ?_
   all_goals rfl
  ·cases wb
   ·skip
    repeat' first|apply en_n|apply zAG|apply zAA|apply zAD|apply w0|refine kU (hd:=rfl) rfl rfl ?_|refine k1u (hd:=rfl) rfl rfl ?_|refine k0u (hd:=rfl) rfl rfl ?_|(refine zAd zDa hK (CoLA rfl))|(refine zAd zE9 hG (CoLA rfl))|(refine zAd zEI hN (CoLA rfl))|(refine zAd zDZ hA (CoLA rfl))|(refine zAd zDZ hB (CoLA rfl))|refine aBox (hd:=rfl) (hro:=rfl) rfl rfl ?_|apply ay (hd:=rfl)|exact zAF rfl|exact zAB rfl|exact zGM rfl rfl|exact zE6 rfl rfl|exact zBS rfl|exact zAZ rfl rfl|exact zAV rfl rfl|(apply zAC;exact rfl;(with_reducible first|exact zAv|exact zAl|exact zCE))|(apply zAE;exact rfl;(with_reducible first|exact zAa|exact zAP);exact rfl;exact rfl)|refine w1 rfl rfl ?_|(apply gD;exact rfl;exact rfl;all_goals intro hb)|refine zAI rfl ?_|apply zAQ|apply en_r|apply zAT|refine res1 rfl ?_
    all_goals rfl
   ·cases gn
    ·skip
     repeat' first|apply en_n|apply zAG|apply zAA|apply zAD|apply w0|refine kU (hd:=rfl) rfl rfl ?_|refine k1u (hd:=rfl) rfl rfl ?_|refine k0u (hd:=rfl) rfl rfl ?_|(refine zAd zDa hK (CoLA rfl))|(refine zAd zE9 hG (CoLA rfl))|(refine zAd zEI hN (CoLA rfl))|(refine zAd zDZ hA (CoLA rfl))|(refine zAd zDZ hB (CoLA rfl))|refine aBox (hd:=rfl) (hro:=rfl) rfl rfl ?_|apply ay (hd:=rfl)|exact zAF rfl|exact zAB rfl|exact zGM rfl rfl|exact zE6 rfl rfl|exact zIX rfl rfl|exact zBS rfl|exact zAZ rfl rfl|exact zAV rfl rfl|(apply zAC;exact rfl;(with_reducible first|exact zAv|exact zAl|exact zCE))|(apply zAE;exact rfl;(with_reducible first|exact zAa|exact zAP);exact rfl;exact rfl)|refine w1 rfl rfl ?_|(apply gD;exact rfl;exact rfl;all_goals intro hb)|(apply zBa;exact rfl;all_goals intro hb)|refine zAI rfl ?_|refine zAJ rfl ?_|apply zAR|apply zAQ|apply en_r|apply zAT|refine res1 rfl ?_
     all_goals first|(simp_all;done)|(simp_all;omega)
    ·skip
     repeat' first|apply en_n|apply zAG|apply zAA|apply zAD|apply w0|refine kU (hd:=rfl) rfl rfl ?_|refine k1u (hd:=rfl) rfl rfl ?_|refine k0u (hd:=rfl) rfl rfl ?_|(refine zAd zDa hK (CoLA rfl))|(refine zAd zE9 hG (CoLA rfl))|(refine zAd zEI hN (CoLA rfl))|(refine zAd zDZ hA (CoLA rfl))|(refine zAd zDZ hB (CoLA rfl))|refine aBox (hd:=rfl) (hro:=rfl) rfl rfl ?_|apply ay (hd:=rfl)|exact zAF rfl|exact zAB rfl|exact zGM rfl rfl|exact zE6 rfl rfl|exact zIX rfl rfl|exact zBS rfl|exact zAZ rfl rfl|exact zAV rfl rfl|(apply zAC;exact rfl;(with_reducible first|exact zAv|exact zAl|exact zCE))|(apply zAE;exact rfl;(with_reducible first|exact zAa|exact zAP);exact rfl;exact rfl)|refine w1 rfl rfl ?_|(apply gD;exact rfl;exact rfl;all_goals intro hb)|(apply zBa;exact rfl;all_goals intro hb)|refine zAJ rfl ?_|apply zAR|apply zAQ|apply en_r|apply zAT|refine res1 rfl ?_
     all_goals first|(simp_all;done)|(simp_all;omega)
end Go.Proofs.YtcagoomibpcdlaaGreatDoor
