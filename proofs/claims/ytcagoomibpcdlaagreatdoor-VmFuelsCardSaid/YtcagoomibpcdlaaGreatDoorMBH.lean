/- Texts of this claim, merged: VmDM. -/
import Derived.Test.YtcagoomibpcdlaaGreatDoorMAC
import Derived.Test.YtcagoomibpcdlaaGreatDoorMAG
import Derived.Test.YtcagoomibpcdlaaGreatDoorMAN
namespace Go.Proofs.YtcagoomibpcdlaaGreatDoor
open Go.Sx Go.Vm
def zGF(o:Int): Bool:=decide (0≤o)&&decide (o<21)
def zGu(n:Int): Bool:=decide (0≤n)&&decide (n≤1048576)
def zID(o:Int): Bool:=zGF o&&decide (o≥15)
def zOo(o:Int): Int:=if zGF o then opNums.getD o.toNat 0 else 0
def hasA(o:Int): Bool:=decide (zOo o>0)||zID o
def hasB(o:Int): Bool:=decide (zOo o=2)||(decide (zOo o=1)&&zID o)
def zKd(i:Ins): Bool:=zGF i.op&&zGu i.a&&zGu i.b&&(hasA i.op||decide (i.a=0))&&(hasB i.op||decide (i.b=0))
def insE(i:Ins): Int:=if zKd i then 0 else 150
theorem zQv(St:Stab)(w:World)(h:Glob St w): (∀o,St 0 o)∧∃e,w.heap[0]?=some (.cells (opNums.map fun z=>Value.int .i64 z).toArray e (0,0)):=⟨h.1.1 _ (by decide),h.1.2⟩
theorem zTs: zO9 Tryz.prog 223=some (21,1):=by kernel_rfl
attribute [local irreducible] zAQ Program.underlying Ylds zBD alex zCA zBi awp zAp zCI zCH zAW zBw zA5 zD4 zB0 zBp zBF zBv zB9 zCE zES zBn zBm zBs
theorem zKc(o:Int): zAp Tryz.prog 149 [i64 o] (bl (zGF o)):=by
 refine zA8 Tryz.func149 rfl Tryz.ntmps149 Tryz.results149 rfl ?_
 intro wb St0
 unfold zGF
 by_cases h:o≥0
 ·rw[decide_eq_true h]
  repeat' first|apply en_n|apply zAK|apply zAA|apply zAF|apply w0|(apply zJW;exact rfl;exact rfl;first|assumption|omega)|apply ay (hd:=rfl)|exact zAJ rfl|exact zAD rfl|exact zGm rfl rfl|exact zAj rfl rfl|(apply w1;exact rfl;exact rfl)|apply zAT|apply zAY|(apply res1;exact rfl)
  all_goals rfl
 ·rw[decide_eq_false (by omega)]
  repeat' first|apply en_n|apply zAK|apply zAA|apply zAF|apply w0|(apply k1u (hd:=rfl);exact rfl;exact rfl)|(apply zH8;exact rfl;exact rfl;first|assumption|omega)|apply ay (hd:=rfl)|exact zAJ rfl|exact zAD rfl|exact zAc rfl rfl|apply zAT|apply zAY|(apply res1;exact rfl)
  all_goals rfl
theorem zKv(o:Int): zAp Tryz.prog 150 [i64 o] (bl (zGu o)):=by
 refine zA8 Tryz.func150 rfl Tryz.ntmps150 Tryz.results150 rfl ?_
 intro wb St0
 unfold zGu
 by_cases h:o≥0
 ·rw[decide_eq_true h]
  repeat' first|apply en_n|apply zAK|apply zAA|apply zAF|apply w0|(apply zJW;exact rfl;exact rfl;first|assumption|omega)|apply ay (hd:=rfl)|exact zAJ rfl|exact zAD rfl|exact zJi rfl rfl|exact zAj rfl rfl|(apply w1;exact rfl;exact rfl)|apply zAT|apply zAY|(apply res1;exact rfl)
  all_goals rfl
 ·rw[decide_eq_false (by omega)]
  repeat' first|apply en_n|apply zAK|apply zAA|apply zAF|apply w0|(apply k1u (hd:=rfl);exact rfl;exact rfl)|(apply zH8;exact rfl;exact rfl;first|assumption|omega)|apply ay (hd:=rfl)|exact zAJ rfl|exact zAD rfl|exact zAc rfl rfl|apply zAT|apply zAY|(apply res1;exact rfl)
  all_goals rfl
theorem zQt(o:Int): zAp Tryz.prog 118 [i64 o] (bl (zID o)):=by
 have hK:=zKc o
 refine zA8 Tryz.func118 rfl Tryz.ntmps118 Tryz.results118 rfl ?_
 intro wb St0
 unfold zID
 cases hk:zGF o
 all_goals
  rw[hk]at hK
  skip
  repeat' first|apply en_n|apply zAK|apply zAA|apply zAF|apply w0|(apply k1u (hd:=rfl);exact rfl;exact rfl)|(refine zAh zDN hK (zAa rfl zAR))|apply ay (hd:=rfl)|exact zAJ rfl|exact zAD rfl|exact zL3 rfl rfl|exact zAj rfl rfl|exact zAc rfl rfl|(apply w1;exact rfl;exact rfl)|apply zAT|apply zAY|(apply res1;exact rfl)
  all_goals rfl
theorem zOp(o:Int): zAp Tryz.prog 148 [i64 o] (i64 (zOo o)):=by
 have hK:=zKc o
 refine zA8 Tryz.func148 rfl Tryz.ntmps148 Tryz.results148 rfl ?_
 intro wb St0
 unfold zOo
 cases hk:zGF o with
 |false =>
  rw[hk]at hK
  repeat' first|apply en_n|apply zAK|apply zAA|apply zAF|apply w0|(refine zAh zDN hK (zAa rfl zAR))|apply ay (hd:=rfl)|exact zAJ rfl|exact zAD rfl|exact zBd rfl|(apply zAL;exact rfl)|apply zAT|apply en_r|apply zAY|(apply res1;exact rfl)
  all_goals rfl
 |true =>
  rw[hk]at hK
  have hr:0≤o∧o<21:=by unfold zGF at hk;simpa using hk
  have hv:opNums[o.toNat]?=some (opNums.getD o.toNat 0):=by
   have hl:o.toNat<opNums.length:=by show o.toNat<21;omega
   rw[List.getD_eq_getElem?_getD,List.getElem?_eq_getElem hl];rfl
  skip
  repeat' first|apply en_n|apply zAK|apply zAA|apply zAF|apply w0|(refine zAh zDN hK (zAa rfl zAR))|(refine zMx zQv rfl zTs hr hv)|apply ay (hd:=rfl)|exact zAJ rfl|exact zAD rfl|(apply zC3;exact rfl;(with_reducible exact zAS))|exact zBd rfl|(apply zAM;exact rfl)|apply zAU|apply zAT|apply zAY|(apply res1;exact rfl)
  all_goals rfl
set_option maxHeartbeats 8000000 in
theorem zOm(i:Ins): zAp Tryz.prog 116 [enIn i] (i64 (insE i)):=by
 obtain⟨op,a,b⟩:=i
 have hK:=zKc op
 have hG:=zQt op
 have hN:=zOp op
 have hA:=zKv a
 have hB:=zKv b
 unfold insE zKd hasA hasB
 dsimp only
 generalize zGF op=kn at *
 generalize zID op=gn at *
 generalize zOo op=nn at *
 generalize zGu a=wa at *
 generalize zGu b=wb at *
 refine zA8 Tryz.func116 rfl Tryz.ntmps116 Tryz.results116 rfl ?_
 intro wb' St0
 unfold enIn
 cases kn
 ·skip
  repeat' first|apply en_n|apply zAK|apply zAA|apply zAF|apply w0|(apply kU (hd:=rfl);exact rfl;exact rfl)|(apply k1u (hd:=rfl);exact rfl;exact rfl)|(apply k0u (hd:=rfl);exact rfl;exact rfl)|(refine zAh zDN hK (zAa rfl zAR))|(refine zAh zEm hG (zAa rfl zAR))|(refine zAh zD2 hN (zAa rfl zAR))|(apply aBox (hd:=rfl) (hro:=rfl);exact rfl;exact rfl)|apply ay (hd:=rfl)|exact zAJ rfl|exact zAD rfl|exact zH0 rfl rfl|exact zGM rfl rfl|exact zBd rfl|exact zAj rfl rfl|exact zAc rfl rfl|(apply zAC;exact rfl;(with_reducible exact zBJ))|(apply zAG;exact rfl;(with_reducible exact zAf);exact rfl;exact rfl)|(apply w1;exact rfl;exact rfl)|(apply gD;exact rfl;exact rfl;(intro hb);rotate_left;(intro hb);rotate_right)|(apply zAL;exact rfl)|apply zAT|apply en_r|apply zAY|(apply res1;exact rfl)
  all_goals rfl
 ·cases wa
  ·skip
   repeat' first|apply en_n|apply zAK|apply zAA|apply zAF|apply w0|(apply kU (hd:=rfl);exact rfl;exact rfl)|(apply k1u (hd:=rfl);exact rfl;exact rfl)|(apply k0u (hd:=rfl);exact rfl;exact rfl)|(refine zAh zDN hK (zAa rfl zAR))|(refine zAh zEm hG (zAa rfl zAR))|(refine zAh zD2 hN (zAa rfl zAR))|(refine zAh zDM hA (zAa rfl zAR))|(apply aBox (hd:=rfl) (hro:=rfl);exact rfl;exact rfl)|apply ay (hd:=rfl)|exact zAJ rfl|exact zAD rfl|exact zH0 rfl rfl|exact zGM rfl rfl|exact zBd rfl|exact zAj rfl rfl|exact zAc rfl rfl|(apply zAC;exact rfl;(with_reducible first|exact zBJ|exact zAu))|(apply zAG;exact rfl;(with_reducible first|exact zAf|exact zAS);exact rfl;exact rfl)|(apply w1;exact rfl;exact rfl)|(apply gD;exact rfl;exact rfl;(intro hb);rotate_left;(intro hb);rotate_right)|(apply zAL;exact rfl)|apply zAT|apply en_r|apply zAY|(apply res1;exact rfl)
   all_goals rfl
  ·cases wb
   ·skip
    repeat' first|apply en_n|apply zAK|apply zAA|apply zAF|apply w0|(apply kU (hd:=rfl);exact rfl;exact rfl)|(apply k1u (hd:=rfl);exact rfl;exact rfl)|(apply k0u (hd:=rfl);exact rfl;exact rfl)|(refine zAh zDN hK (zAa rfl zAR))|(refine zAh zEm hG (zAa rfl zAR))|(refine zAh zD2 hN (zAa rfl zAR))|(refine zAh zDM hA (zAa rfl zAR))|(refine zAh zDM hB (zAa rfl zAR))|(apply aBox (hd:=rfl) (hro:=rfl);exact rfl;exact rfl)|apply ay (hd:=rfl)|exact zAJ rfl|exact zAD rfl|exact zH0 rfl rfl|exact zGM rfl rfl|exact zBd rfl|exact zAj rfl rfl|exact zAc rfl rfl|(apply zAC;exact rfl;(with_reducible first|exact zBJ|exact zAu|exact zCd))|(apply zAG;exact rfl;(with_reducible first|exact zAf|exact zAS);exact rfl;exact rfl)|(apply w1;exact rfl;exact rfl)|(apply gD;exact rfl;exact rfl;(intro hb);rotate_left;(intro hb);rotate_right)|(apply zAL;exact rfl)|apply zAT|apply en_r|apply zAY|(apply res1;exact rfl)
    all_goals rfl
   ·cases gn
    ·skip
     repeat' first|apply en_n|apply zAK|apply zAA|apply zAF|apply w0|(apply kU (hd:=rfl);exact rfl;exact rfl)|(apply k1u (hd:=rfl);exact rfl;exact rfl)|(apply k0u (hd:=rfl);exact rfl;exact rfl)|(refine zAh zDN hK (zAa rfl zAR))|(refine zAh zEm hG (zAa rfl zAR))|(refine zAh zD2 hN (zAa rfl zAR))|(refine zAh zDM hA (zAa rfl zAR))|(refine zAh zDM hB (zAa rfl zAR))|(apply aBox (hd:=rfl) (hro:=rfl);exact rfl;exact rfl)|apply ay (hd:=rfl)|exact zAJ rfl|exact zAD rfl|exact zH0 rfl rfl|exact zGM rfl rfl|exact zHz rfl rfl|exact zBd rfl|exact zAj rfl rfl|exact zAc rfl rfl|(apply zAC;exact rfl;(with_reducible first|exact zBJ|exact zAu|exact zCd))|(apply zAG;exact rfl;(with_reducible first|exact zAf|exact zAS);exact rfl;exact rfl)|(apply w1;exact rfl;exact rfl)|(apply gD;exact rfl;exact rfl;(intro hb);rotate_left;(intro hb);rotate_right)|(apply zCO;exact rfl;(intro hb);rotate_left;(intro hb);rotate_right)|(apply zAL;exact rfl)|(apply zAM;exact rfl)|apply zAU|apply zAT|apply en_r|apply zAY|(apply res1;exact rfl)
     all_goals first|(simp_all;done)|(simp_all;omega)
    ·skip
     repeat' first|apply en_n|apply zAK|apply zAA|apply zAF|apply w0|(apply kU (hd:=rfl);exact rfl;exact rfl)|(apply k1u (hd:=rfl);exact rfl;exact rfl)|(apply k0u (hd:=rfl);exact rfl;exact rfl)|(refine zAh zDN hK (zAa rfl zAR))|(refine zAh zEm hG (zAa rfl zAR))|(refine zAh zD2 hN (zAa rfl zAR))|(refine zAh zDM hA (zAa rfl zAR))|(refine zAh zDM hB (zAa rfl zAR))|(apply aBox (hd:=rfl) (hro:=rfl);exact rfl;exact rfl)|apply ay (hd:=rfl)|exact zAJ rfl|exact zAD rfl|exact zH0 rfl rfl|exact zGM rfl rfl|exact zHz rfl rfl|exact zBd rfl|exact zAj rfl rfl|exact zAc rfl rfl|(apply zAC;exact rfl;(with_reducible first|exact zBJ|exact zAu|exact zCd))|(apply zAG;exact rfl;(with_reducible first|exact zAf|exact zAS);exact rfl;exact rfl)|(apply w1;exact rfl;exact rfl)|(apply gD;exact rfl;exact rfl;(intro hb);rotate_left;(intro hb);rotate_right)|(apply zCO;exact rfl;(intro hb);rotate_left;(intro hb);rotate_right)|(apply zAM;exact rfl)|apply zAU|apply zAT|apply en_r|apply zAY|(apply res1;exact rfl)
     all_goals first|(simp_all;done)|(simp_all;omega)
end Go.Proofs.YtcagoomibpcdlaaGreatDoor
