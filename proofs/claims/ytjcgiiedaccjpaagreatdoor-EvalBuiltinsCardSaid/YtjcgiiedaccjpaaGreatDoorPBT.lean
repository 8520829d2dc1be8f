/- Parts. -/
import Derived.Test.YtjcgiiedaccjpaaGreatDoorPBR
set_option maxHeartbeats 16000000
namespace Go.Proofs.YtjcgiiedaccjpaaGreatDoor
open _root_.Go.Proofs.Tryz
open Go.Sx Go.Ev
abbrev ndA(k:Int)(s:List UInt8)(n c:Int): D:=.agg [i64 k,str s,i64 n,i64 c]
abbrev aD: D:=.slice [ndA 6 [] 0 2,ndA 3 putX 0 0,ndA 1 [] (-7) 0]
attribute [local irreducible] zAQ Program.underlying Ylds zBJ alex zBk zBZ awp zAX FCall zBo zBR zBX zEg zBb zBD zBd zBj zBn zBu zEL zBP VCall
theorem zYO: zAX prog 21 [ndA 6 [] 0 0,.slice [.slice [ndA 3 putX 0 0],.slice [ndA 1 [] (-7) 0]]] aD :=
 zWO ⟨6,[],0,0⟩ [[⟨3,putX,0,0⟩],[⟨1,[],-7,0⟩]] dC dC
theorem zLR: zAX prog 12 [.slice [],aD] (i64 0):=by
 have:=zIu d0 aT zcE dC dK
 rw[aT_e]at this;exact this
theorem zTD: zAX prog 12 [.slice [],.slice [ndA 3 [120] 0 0]] (i64 140):=by
 have:=zIu d0 xT zcl dC dK
 rw[xT_e]at this;exact this
theorem zcG: zAX prog 8 [.slice [],aD,i64 10] (.tup [.agg [i64 1,.slice [ndA 51 [] (-7) 0],i64 0,.slice [str [126,55]],i64 3],i64 0]):=by
 obtain⟨h1,h2⟩:=aT_r.ok 10 dC
 have:=zNJ h1 h2 zLR
 rw[a10]at this;exact this
theorem zc9: zAX prog 8 [.slice [],aD,i64 2] (.tup [.agg [i64 3,.slice [],i64 0,.slice [],i64 2],i64 0]):=by
 obtain⟨h1,h2⟩:=aT_r.ok 2 dC
 have:=zNJ h1 h2 zLR
 rw[a2]at this;exact this
theorem xRun: zAX prog 8 [.slice [],.slice [ndA 3 [120] 0 0],i64 9] (.tup [.agg [i64 0,.slice [],i64 0,.slice [],i64 0],i64 140]):=by
 have:=zRc [] xT.fl 9 140 dC zTD
 exact this
theorem zOs: zAX prog 6 [] (bl true):=by
 have hM:=zYO
 have hC:=zLR
 have r1:=zcG
 have r2:=zc9
 have r0:=xRun
 have hB:=zLU
 unfold zSB at hB
 have hl:((List.range 14).map sigD).length=14:=by rw[qAE,qA6]
 generalize (List.range 14).map sigD=bs at *
 have hl':(bs.length:Int)=14:=by omega
 clear hl
 refine zAc func6 rfl ntmps6 results6 rfl ?_
 intro wb St0
 repeat' first|(refine zP0 (id:=6) ?_)|apply en_n|apply zAE|apply zAA|apply zAD|apply w0|(refine zAP zK0 r1 (zEo rfl (CoLA rfl)))|(refine zAP zK0 r2 (zEo rfl (CoLA rfl)))|(refine zAP zK0 r0 (zEo rfl (CoLA rfl)))|exact ycA zUq hM|(refine zAo (cs:=[i64 3,str putX,i64 0,i64 0]) zDh zA2 (PD_d rfl rfl (PD_d rfl rfl zBE)) rfl)|(refine zAo (cs:=[i64 3,str [120],i64 0,i64 0]) zDh zA2 (PD_d rfl rfl (PD_d rfl rfl zBE)) rfl)|(refine zAo (cs:=[i64 6,str [],i64 0,i64 0]) zDh zA2 (PD_d rfl rfl zBE) rfl)|(refine zAo (cs:=[i64 1,str [],i64 (-7),i64 0]) zDh zA2 (PD_d rfl rfl (PD_d rfl rfl zBE)) rfl)|refine aStA ?_|refine aAlA ?_|refine ayA rfl ?_|refine ayL rfl ?_|apply ay (hd:=rfl)|(apply zWK;(with_reducible exact zE3);(with_reducible exact zB7);(with_reducible exact zHS);exact rfl;exact rfl;(first|exact zAL rfl (zAL rfl zAF)|exact zEH rfl rfl rfl (zEH rfl rfl rfl zAF));exact rfl)|(refine w0' ?_)
 all_goals refine Stop.go ?_
 refine zDJ (s:=[(2,.d aD),(3,.ptr 0 0),(4,.d (i64 0)),(5,.ptr 1 0),(6,.d (i64 0)),(8,.d (i64 140))]) (h:=[.box [.d (i64 1),.d (.slice [ndA 51 [] (-7) 0]),.d (i64 0),.d (.slice [str [126,55]]),.d (i64 3)],.box [.d (i64 3),.d (.slice []),.d (i64 0),.d (.slice []),.d (i64 2)]]) (zAV (Le_all rfl) (zAT rfl rfl (zAT rfl rfl zAW)) rfl rfl) ?_
 skip
 repeat' first|(refine ay (hd:=rfl) (zBG rfl rfl zAe (by decide) rfl rfl (by decide)) ?_)|(refine ay (hd:=rfl) (zBG rfl rfl zA6 (by decide) rfl rfl (by decide)) ?_)|apply en_n|apply zAE|apply zAA|apply zAD|apply w0|exact zBH rfl rfl|exact zHt rfl rfl|(refine zAP zGG hC (zEo rfl (CoLA rfl)))|(refine zAP zK1 hB zAF)|apply ay (hd:=rfl)|exact zAC rfl|exact zAB rfl|exact zAs rfl fn_2|(apply zAR;exact rfl;(with_reducible first|exact zBi|exact zAf))|(apply zCo;exact rfl;(with_reducible first|exact zNC|exact zBz|exact zA5|exact zBz))|exact zDz rfl rfl|exact zAj rfl rfl|(apply zAI;exact rfl;(with_reducible first|exact zE4|exact zEa|exact zMD|exact zHg))|(apply zAG;exact rfl;(with_reducible first|exact zA8|exact zCK|exact zAa|exact zAx|exact zCK);exact rfl;exact rfl)|refine w1 rfl rfl ?_|apply zAN|apply zAO|refine res1 rfl ?_
 all_goals rfl
