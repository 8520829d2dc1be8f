/- Texts of this claim, merged: WrdA, WrdC, WrdD, WrdE, WrdG. -/
import Derived.Lib.CutLaws
import Derived.Test.YtblomnkamngnbaaGreatDoorMAC
namespace Go.Proofs.YtblomnkamngnbaaGreatDoor
open Go.Sx
attribute [local irreducible] zAO Program.underlying Ylds zA3 alex zBY zBN awp zAm zBT zBe zBP zA2 zBR zBX zBa
theorem zNv {a b : Int} (h : a = b) : D.val (.int .i64 a) = i64 b:=by rw [h]
theorem tw1 : (2 : Int) ^ min (Int.toNat 1) IntKind.u64.bits = 2:=by decide
theorem tw2 : (2 : Int) ^ min (Int.toNat 1) IntKind.i64.bits = 2:=by decide
theorem zNM (n : Int) : zAm Tryz.prog 90 [i64 n] (i64 (W n)):=by
  refine zAd Tryz.func90 rfl Tryz.ntmps90 Tryz.results90 rfl ?_
  intro wb St0
  repeat' first | apply en_n|apply zAH|apply zAC|apply zAF|apply w0|(apply zON;exact rfl;(first|with_reducible exact si64|with_reducible exact su64|with_reducible exact su8|with_reducible exact si32);(first|with_reducible exact ui64|with_reducible exact uu64|with_reducible exact uu8|with_reducible exact ui32))|(apply zWo;exact rfl;exact rfl;exact (by decide))|(apply zWn;exact rfl;exact rfl;exact (by decide))|apply ay (hd:=rfl)|exact zAE rfl|exact zAD rfl|apply zAN|apply zAP|(apply res1;exact rfl)
  refine zNv ?_
  rw [tw1,tw2,Int.fdiv_eq_ediv_of_nonneg _ (by decide),zGY,zGY,zGZ,W]
  omega
theorem zUp (n : Int) (h : 0 ≤ n) : zAm Tryz.prog 121 [u64 n] (i64 (W n)):=by
  refine zAd Tryz.func121 rfl Tryz.ntmps121 Tryz.results121 rfl ?_
  intro wb St0
  have e : n.tmod 9223372036854775808 = n % 9223372036854775808:=Int.tmod_eq_emod_of_nonneg h
  repeat' first | apply en_n|apply zAH|apply zAC|apply zAF|apply w0|(apply zON;exact rfl;(first|with_reducible exact si64|with_reducible exact su64|with_reducible exact su8|with_reducible exact si32);(first|with_reducible exact ui64|with_reducible exact uu64|with_reducible exact uu8|with_reducible exact ui32))|(apply zTy (k:=.u64);exact rfl;exact rfl)|(apply zTy (k:=.i64);exact rfl;exact rfl)|(apply zTI;exact rfl;exact rfl;exact (by decide))|apply ay (hd:=rfl)|exact zAE rfl|exact zAD rfl|exact zFp rfl rfl|(apply zA1;exact rfl;(intro hb);rotate_left;(intro hb);rotate_right)|apply zAT|apply zAN|apply en_r|apply zAP|(apply res1;exact rfl)
  · refine zNv ?_
    rw [e] at hb ⊢
    rw [zGY,zGZ,zGZ,W]
    omega
  · refine zNv ?_
    rw [e] at hb ⊢
    rw [zGZ,W]
    omega
theorem zSN (n : Int) : zAm Tryz.prog 81 [i64 n] (i64 (W n)):=by
  refine zAd Tryz.func81 rfl Tryz.ntmps81 Tryz.results81 rfl ?_
  intro wb St0
  repeat' first | apply en_n|apply zAH|apply zAC|apply zAF|apply w0|(apply zON;exact rfl;(first|with_reducible exact si64|with_reducible exact su64|with_reducible exact su8|with_reducible exact si32);(first|with_reducible exact ui64|with_reducible exact uu64|with_reducible exact uu8|with_reducible exact ui32))|(refine zAX zUV (zUp _ (by rw [zGY];omega)) (zAZ rfl zAG))|apply ay (hd:=rfl)|exact zAE rfl|exact zAD rfl|apply zAN|apply zAP|(apply res1;exact rfl)
  refine zNv ?_
  rw [zGY,W,W]
  omega
end Go.Proofs.YtblomnkamngnbaaGreatDoor
namespace Go.Proofs.YtblomnkamngnbaaGreatDoor
open Go.Sx
attribute [local irreducible] zAO Program.underlying Ylds zA3 alex zBY zBN awp zAm zBT zBe zBP zA2 zBR zBX zBa
end Go.Proofs.YtblomnkamngnbaaGreatDoor
namespace Go.Proofs.YtblomnkamngnbaaGreatDoor
open Go.Sx
end Go.Proofs.YtblomnkamngnbaaGreatDoor
namespace Go.Proofs.YtblomnkamngnbaaGreatDoor
open Go.Sx
attribute [local irreducible] zAO Program.underlying Ylds zA3 alex zBY zBN awp zAm zBT zBe zBP zA2 zBR zBX zBa
end Go.Proofs.YtblomnkamngnbaaGreatDoor
namespace Go.Proofs.YtblomnkamngnbaaGreatDoor
open Go.Sx
attribute [local irreducible] zAO Program.underlying Ylds zA3 alex zBY zBN awp zAm zBT zBe zBP zA2 zBR zBX zBa
end Go.Proofs.YtblomnkamngnbaaGreatDoor
