/- Parts of the proof. -/
import Derived.Test.YtcagoomibpcdlaaGreatDoorMBW
set_option maxHeartbeats 16000000
namespace Go.Proofs.YtcagoomibpcdlaaGreatDoor
open _root_.Go.Proofs.Tryz
open Go.Sx Go.Vm
theorem zOE(o:Int): zFt o=(decide (o>=15)&&decide (o<=20)):=by
 unfold zFt zFS
 by_cases h1:0<=o <;> by_cases h2:o<21 <;> by_cases h3:o>=15 <;> simp[h1,h2,h3] <;> omega
theorem zWf{o:Int}(h:¬o=1/\¬o=2/\¬o=3/\¬o=5/\¬o=6/\¬o=11/\¬o=12/\¬o=18/\¬o=19/\¬o=20/\¬o=10): zIV o=0:=by
 unfold zIV
 split
 ·rename_i hk
  have hr:0<=o/\o<21:=by unfold zFS at hk;simpa using hk
  have:o=0\/o=4\/o=7\/o=8\/o=9\/o=13\/o=14\/o=15\/o=16\/o=17:=by omega
  rcases this with rfl|rfl|rfl|rfl|rfl|rfl|rfl|rfl|rfl|rfl <;> rfl
 ·rfl
theorem zPQ{o:Int}(h:zFt o=true): zIV o=0\/zIV o=1:=by
 rw[zOE]at h
 simp at h
 have:o=15\/o=16\/o=17\/o=18\/o=19\/o=20:=by omega
 rcases this with rfl|rfl|rfl|rfl|rfl|rfl <;> decide
attribute [local irreducible] zAN Program.underlying Ylds zA9 alex zB3 zBf awp zAi zCC zCB zAU zBl zAz zDt zBq zBj zBB zBr zB2 zB8 zD7 zBi zBd zBg
theorem zNu(o:Int): zAi prog 69 [i64 o] (bl (zFt o)):=by
 rw[zOE]
 refine zAs func69 rfl ntmps69 results69 rfl ?_
 intro wb St0
 repeat' first|apply en_n|apply zAH|apply zAA|apply zAD|apply w0|(apply k1u (hd:=rfl);exact rfl;exact rfl)|apply ay (hd:=rfl)|exact zAF rfl|exact zAB rfl|exact zIY rfl rfl|exact zJp rfl rfl|exact zAa rfl rfl|exact zAX rfl rfl|refine w1 rfl rfl ?_|(apply gD;exact rfl;exact rfl;all_goals intro hb)|apply zAQ|apply zAR|refine res1 rfl ?_
 all_goals (apply zDi;first|(simp_all;done)|(simp_all;intros;omega))
theorem zMv(o:Int): zAi prog 113 [i64 o] (i64 (zIV o)):=by
 refine zAs func113 rfl ntmps113 results113 rfl ?_
 intro wb St0
 have h:o=1\/o=2\/o=3\/o=5\/o=6\/o=11\/o=12\/o=18\/o=19\/o=20\/o=10\/(¬o=1/\¬o=2/\¬o=3/\¬o=5/\¬o=6/\¬o=11/\¬o=12/\¬o=18/\¬o=19/\¬o=20/\¬o=10):=by omega
 rcases h with h|h|h|h|h|h|h|h|h|h|h|h
 all_goals
  skip
  repeat' first|apply en_n|apply zAH|apply zAA|apply zAD|apply w0|exact zAk rfl rfl|exact zAm rfl rfl|apply ay (hd:=rfl)|exact zAF rfl|exact zAB rfl|refine zAI rfl ?_|refine zAJ rfl ?_|apply zAL|apply zAS|apply zAQ|apply en_r|apply eb_n|apply eb_r|apply zAR|refine res1 rfl ?_
  all_goals first|(rw[h];rfl)|rw[zWf h]
theorem zLd(i:Ins): zAi prog 68 [enIn i] (bl (zHp i)):=by
 obtain⟨op,a,b⟩:=i
 have hG:=zNu op
 have hN:=zMv op
 have hng:=zPQ (o:=op)
 refine zAs func68 rfl ntmps68 results68 rfl ?_
 intro wb' St0
 unfold enIn zHp zFS zGL hasA hasB
 dsimp only
 generalize zFt op=gn at *
 generalize zIV op=nn at *
 cases gn
 ·skip
  repeat' first|apply en_n|apply zAH|apply zAA|apply zAD|apply w0|(apply kU (hd:=rfl);exact rfl;exact rfl)|(apply k1u (hd:=rfl);exact rfl;exact rfl)|(apply k0u (hd:=rfl);exact rfl;exact rfl)|(refine zAb zF9 hG (zAY rfl zAM))|(refine zAb zGH hN (zAY rfl zAM))|(apply aBox (hd:=rfl) (hro:=rfl);exact rfl;exact rfl)|apply ay (hd:=rfl)|exact zAF rfl|exact zAB rfl|exact zEw rfl rfl|exact zGG rfl rfl|exact zFN rfl rfl|exact zAa rfl rfl|exact zAX rfl rfl|(apply zAC;exact rfl;(with_reducible first|exact zBA|exact zAp|exact zCY))|(apply zAE;exact rfl;(with_reducible first|exact zAd|exact zAP);exact rfl;exact rfl)|refine w1 rfl rfl ?_|(apply gD;exact rfl;exact rfl;all_goals intro hb)|(apply zBT;exact rfl;all_goals intro hb)|refine zAI rfl ?_|refine zAJ rfl ?_|apply zAS|apply zAQ|apply en_r|apply zAR|refine res1 rfl ?_
  all_goals apply zDi
  all_goals first|(simp_all;done)|(simp_all;omega)
 ·skip
  repeat' first|apply en_n|apply zAH|apply zAA|apply zAD|apply w0|(apply k0u (hd:=rfl);exact rfl;exact rfl)|(refine zAb zF9 hG (zAY rfl zAM))|(refine zAb zGH hN (zAY rfl zAM))|(apply aBox (hd:=rfl) (hro:=rfl);exact rfl;exact rfl)|apply ay (hd:=rfl)|exact zAF rfl|exact zAB rfl|exact zEw rfl rfl|exact zGG rfl rfl|exact zFN rfl rfl|exact zAa rfl rfl|exact zAX rfl rfl|(apply zAC;exact rfl;(with_reducible first|exact zBA|exact zAp|exact zCY))|(apply zAE;exact rfl;(with_reducible first|exact zAd|exact zAP);exact rfl;exact rfl)|refine w1 rfl rfl ?_|(apply gD;exact rfl;exact rfl;all_goals intro hb)|(apply zBT;exact rfl;all_goals intro hb)|refine zAI rfl ?_|apply zAS|apply zAQ|apply en_r|apply zAR|refine res1 rfl ?_
  all_goals apply zDi
  all_goals first|(simp_all;done)|(simp_all;omega)
end Go.Proofs.YtcagoomibpcdlaaGreatDoor
