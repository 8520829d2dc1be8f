/- Parts of the proof. -/
import Derived.Test.YtcagoomibpcdlaaGreatDoorMBR
set_option maxHeartbeats 16000000
namespace Go.Proofs.YtcagoomibpcdlaaGreatDoor
open _root_.Go.Proofs.Tryz
open Go.Sx Go.Vm
theorem zOs(o:Int): zFz o=(decide (o>=15)&&decide (o<=20)):=by
 unfold zFz zFW
 by_cases h1:0<=o <;> by_cases h2:o<21 <;> by_cases h3:o>=15 <;> simp[h1,h2,h3] <;> omega
theorem zXM{o:Int}(h:¬o=1/\¬o=2/\¬o=3/\¬o=5/\¬o=6/\¬o=11/\¬o=12/\¬o=18/\¬o=19/\¬o=20/\¬o=10): zIm o=0:=by
 unfold zIm
 split
 ·rename_i hk
  have hr:0<=o/\o<21:=by unfold zFW at hk;simpa using hk
  have:o=0\/o=4\/o=7\/o=8\/o=9\/o=13\/o=14\/o=15\/o=16\/o=17:=by omega
  rcases this with rfl|rfl|rfl|rfl|rfl|rfl|rfl|rfl|rfl|rfl <;> rfl
 ·rfl
theorem zP3{o:Int}(h:zFz o=true): zIm o=0\/zIm o=1:=by
 rw[zOs]at h
 simp at h
 have:o=15\/o=16\/o=17\/o=18\/o=19\/o=20:=by omega
 rcases this with rfl|rfl|rfl|rfl|rfl|rfl <;> decide
attribute [local irreducible] zAO Program.underlying Ylds zBE alex zB0 zBk awp zAg zB9 zB8 zAU zBj zA6 zDJ zBl zBn zBC zBq zBz zB7 zDQ zBm zBc zBe
theorem zOY(o:Int): zAg prog 69 [i64 o] (bl (zFz o)):=by
 rw[zOs]
 refine zAr func69 rfl ntmps69 results69 rfl ?_
 intro wb St0
 repeat' first|apply en_n|apply zAG|apply zAA|apply zAD|apply w0|refine k1u (hd:=rfl) rfl rfl ?_|apply ay (hd:=rfl)|exact zAF rfl|exact zAB rfl|exact zGk rfl rfl|exact zH9 rfl rfl|exact zAZ rfl rfl|exact zAV rfl rfl|refine w1 rfl rfl ?_|(apply gD;exact rfl;exact rfl;all_goals intro hb)|apply zAQ|apply zAT|refine res1 rfl ?_
 all_goals (apply zDR;first|(simp_all;done)|(simp_all;intros;omega))
theorem zNU(o:Int): zAg prog 113 [i64 o] (i64 (zIm o)):=by
 refine zAr func113 rfl ntmps113 results113 rfl ?_
 intro wb St0
 have h:o=1\/o=2\/o=3\/o=5\/o=6\/o=11\/o=12\/o=18\/o=19\/o=20\/o=10\/(¬o=1/\¬o=2/\¬o=3/\¬o=5/\¬o=6/\¬o=11/\¬o=12/\¬o=18/\¬o=19/\¬o=20/\¬o=10):=by omega
 rcases h with h|h|h|h|h|h|h|h|h|h|h|h
 all_goals
  skip
  repeat' first|apply en_n|apply zAG|apply zAA|apply zAD|apply w0|exact zAi rfl rfl|exact zAn rfl rfl|apply ay (hd:=rfl)|exact zAF rfl|exact zAB rfl|refine zAI rfl ?_|refine zAJ rfl ?_|apply zAK|apply zAR|apply zAQ|apply en_r|apply eb_n|apply eb_r|apply zAT|refine res1 rfl ?_
  all_goals first|(rw[h];rfl)|rw[zXM h]
theorem zMB(i:Ins): zAg prog 68 [enIn i] (bl (zH1 i)):=by
 obtain⟨op,a,b⟩:=i
 have hG:=zOY op
 have hN:=zNU op
 have hng:=zP3 (o:=op)
 refine zAr func68 rfl ntmps68 results68 rfl ?_
 intro wb' St0
 unfold enIn zH1 zFW zGN hasA hasB
 dsimp only
 generalize zFz op=gn at *
 generalize zIm op=nn at *
 cases gn
 ·skip
  repeat' first|apply en_n|apply zAG|apply zAA|apply zAD|apply w0|refine kU (hd:=rfl) rfl rfl ?_|refine k1u (hd:=rfl) rfl rfl ?_|refine k0u (hd:=rfl) rfl rfl ?_|(refine zAd zGE hG (CoLA rfl))|(refine zAd zGL hN (CoLA rfl))|refine aBox (hd:=rfl) (hro:=rfl) rfl rfl ?_|apply ay (hd:=rfl)|exact zAF rfl|exact zAB rfl|exact zEM rfl rfl|exact zGM rfl rfl|exact zE6 rfl rfl|exact zAZ rfl rfl|exact zAV rfl rfl|(apply zAC;exact rfl;(with_reducible first|exact zAv|exact zAl|exact zCE))|(apply zAE;exact rfl;(with_reducible first|exact zAa|exact zAP);exact rfl;exact rfl)|refine w1 rfl rfl ?_|(apply gD;exact rfl;exact rfl;all_goals intro hb)|(apply zBa;exact rfl;all_goals intro hb)|refine zAI rfl ?_|refine zAJ rfl ?_|apply zAR|apply zAQ|apply en_r|apply zAT|refine res1 rfl ?_
  all_goals apply zDR
  all_goals first|(simp_all;done)|(simp_all;omega)
 ·skip
  repeat' first|apply en_n|apply zAG|apply zAA|apply zAD|apply w0|refine k0u (hd:=rfl) rfl rfl ?_|(refine zAd zGE hG (CoLA rfl))|(refine zAd zGL hN (CoLA rfl))|refine aBox (hd:=rfl) (hro:=rfl) rfl rfl ?_|apply ay (hd:=rfl)|exact zAF rfl|exact zAB rfl|exact zEM rfl rfl|exact zGM rfl rfl|exact zE6 rfl rfl|exact zAZ rfl rfl|exact zAV rfl rfl|(apply zAC;exact rfl;(with_reducible first|exact zAv|exact zAl|exact zCE))|(apply zAE;exact rfl;(with_reducible first|exact zAa|exact zAP);exact rfl;exact rfl)|refine w1 rfl rfl ?_|(apply gD;exact rfl;exact rfl;all_goals intro hb)|(apply zBa;exact rfl;all_goals intro hb)|refine zAI rfl ?_|apply zAR|apply zAQ|apply en_r|apply zAT|refine res1 rfl ?_
  all_goals apply zDR
  all_goals first|(simp_all;done)|(simp_all;omega)
end Go.Proofs.YtcagoomibpcdlaaGreatDoor
