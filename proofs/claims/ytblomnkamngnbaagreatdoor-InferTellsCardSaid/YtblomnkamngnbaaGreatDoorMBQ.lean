/- Texts of this claim, merged: RefB3. -/
import Derived.Test.YtblomnkamngnbaaGreatDoorMBO
namespace Go.Proofs.YtblomnkamngnbaaGreatDoor
open Go.Sx
attribute [local irreducible] zAT Program.underlying Ylds zBA alex zBe zBP awp zAj zBZ zBk zA2 zBH zBR zA8 zBV zBb zBf zBu zBO
set_option maxHeartbeats 8000000 in
theorem zRO (L : List Nd) (n : Nat) (x y : Nd) (kx : Int) (pat : Bool) (nm cn : Bool) (hx : L[n]? = some x) (hy : L[n + 1]? = some y) (hkx : y.kind = kx) (hlen : n < 2000000) (h : x.kind = 8) (hp : patK x.kind = pat)
    (hs : zAj Tryz.prog 82 [i64 x.kind] (i64 1)) (hi : zAj Tryz.prog 46 [i64 x.kind] (bl pat)) (hk : zAj Tryz.prog 83 [i64 x.kind,i64 x.kids] (bl true))
    (hN : zAj Tryz.prog 20 [str x.text] (bl nm)) (_hC : zAj Tryz.prog 19 [str x.text] (bl cn)) (_hW : zAj Tryz.prog 81 [i64 x.num] (i64 (W x.num))) :
    zAj Tryz.prog 45 [zAc L,i64 (n : Int),bl pat] (i64 (genE false false (some nm) pat true pat x (kx ≠ 5))):=by
  subst hkx
  have hl3 : n + 1 < L.length:=(List.getElem?_eq_some_iff.1 hy).1
  have hy3 : L[((n : Int) + 1).toNat]? = some y:=by rw [show ((n : Int) + 1).toNat = n + 1 by omega];exact hy
  by_cases h5 : y.kind = 5 <;> cases pat
  all_goals first
    | (exfalso;rw [h] at hp;revert hp;decide)
    | skip
  all_goals
    refine zAd Tryz.func45 rfl Tryz.ntmps45 Tryz.results45 rfl ?_
    intro wb St0
    repeat' first | apply en_n|apply zAH|apply zAB|apply zAF|apply w0|(apply kUd (hd:=rfl);exact rfl;exact rfl)|(apply k1ud (hd:=rfl);exact rfl;exact rfl)|(apply k0ud (hd:=rfl);exact rfl;exact rfl)|(apply kU (hd:=rfl);exact rfl;exact rfl)|(apply k1u (hd:=rfl);exact rfl;exact rfl)|(apply k0u (hd:=rfl);exact rfl;exact rfl)|(apply zBq;exact rfl;exact rfl;first|assumption|omega)|(apply zBD;exact rfl;exact rfl;first|assumption|omega)|(apply zA9;exact rfl;exact rfl;first|assumption|omega)|(apply zB7;exact rfl;exact rfl;first|assumption|omega)|(apply zBU;exact rfl;exact rfl;first|assumption|omega)|(apply zFS;exact rfl;exact rfl;with_reducible exact zGE)|(refine zAV zC9 hs (zAX rfl zAG))|(refine zAV zD9 hk (zAX rfl (zAX rfl zAG)))|(refine zAV zC1 hi (zAX rfl zAG))|(refine zAV zGa hN (zAX rfl zAG))|(apply aJ (hd:=rfl);(first|exact zAk rfl|exact Co_bb rfl rfl rfl|exact Co_nn rfl);exact rfl;(with_reducible exact zAW);assumption;omega;exact fun _=>rfl)|(apply zA4 (hd:=rfl) (hro:=rfl);(with_reducible exact zAp))|apply ay (hd:=rfl)|exact zAE rfl|exact zAC rfl|(apply zAy;exact rfl;(with_reducible exact fn_0))|(apply zAg;exact rfl;(with_reducible exact zAe))|(apply zAf;exact rfl;(with_reducible exact zAY);exact rfl)|exact zEE rfl rfl|(apply zBC;exact rfl;exact rfl)|exact zBr rfl|exact zAi rfl rfl|exact zAh rfl rfl|(apply zAR;exact rfl;(with_reducible first|exact fn_0|exact fn_1|exact fn_2|exact fn_3))|(apply zAU;exact rfl;(with_reducible first|exact zAs|exact zAe|exact zBK|exact zAv);exact rfl;exact rfl)|(apply w1;exact rfl;exact rfl)|(apply gD;exact rfl;exact rfl;(intro hb);rotate_left;(intro hb);rotate_right)|(apply g1;exact rfl;exact rfl;(intro hb);rotate_left;(intro hb);rotate_right)|(refine w0' ?_)|(apply zAx;exact rfl;exact rfl;exact rfl;(with_reducible exact zAY);exact rfl;exact rfl;exact rfl;exact rfl)|(apply zAK;exact rfl)|(apply zAQ;exact rfl)|apply zAP|apply zAM|refine zA6 (by kernel_rfl) (by kernel_rfl) ?_|apply en_r|apply zAJ|(apply res1;exact rfl)
  all_goals try omega
  all_goals clear hs hi hk hN _hC _hW
  all_goals refine zCr ?_
  all_goals first | (simp_all [genE];done) | (simp_all [genE];omega)
set_option maxHeartbeats 8000000 in
theorem zRN (L : List Nd) (n : Nat) (x _y : Nd) (_kx : Int) (pat : Bool) (nm cn : Bool) (hx : L[n]? = some x) (hlen : n < 2000000) (h : x.kind = 4 ∨ x.kind = 24) (hp : patK x.kind = pat)
    (hs : zAj Tryz.prog 82 [i64 x.kind] (i64 2)) (hi : zAj Tryz.prog 46 [i64 x.kind] (bl pat)) (hk : zAj Tryz.prog 83 [i64 x.kind,i64 x.kids] (bl true))
    (_hN : zAj Tryz.prog 20 [str x.text] (bl nm)) (hC : zAj Tryz.prog 19 [str x.text] (bl cn)) (_hW : zAj Tryz.prog 81 [i64 x.num] (i64 (W x.num))) :
    zAj Tryz.prog 45 [zAc L,i64 (n : Int),bl pat] (i64 (genE false false (some cn) pat true pat x (False))):=by
  cases pat
  all_goals
    refine zAd Tryz.func45 rfl Tryz.ntmps45 Tryz.results45 rfl ?_
    intro wb St0
    repeat' first | apply en_n|apply zAH|apply zAB|apply zAF|apply w0|(apply kUd (hd:=rfl);exact rfl;exact rfl)|(apply k1ud (hd:=rfl);exact rfl;exact rfl)|(apply k0ud (hd:=rfl);exact rfl;exact rfl)|(apply k1u (hd:=rfl);exact rfl;exact rfl)|(apply zBq;exact rfl;exact rfl;first|assumption|omega)|(apply zBD;exact rfl;exact rfl;first|assumption|omega)|(apply zA9;exact rfl;exact rfl;first|assumption|omega)|(apply zFS;exact rfl;exact rfl;with_reducible exact zGE)|(refine zAV zC9 hs (zAX rfl zAG))|(refine zAV zD9 hk (zAX rfl (zAX rfl zAG)))|(refine zAV zC1 hi (zAX rfl zAG))|(refine zAV zHj hC (zAX rfl zAG))|(apply aJ (hd:=rfl);(first|exact zAk rfl|exact Co_bb rfl rfl rfl|exact Co_nn rfl);exact rfl;(with_reducible exact zAW);assumption;omega;exact fun _=>rfl)|(apply zA4 (hd:=rfl) (hro:=rfl);(with_reducible exact zAp))|apply ay (hd:=rfl)|exact zAE rfl|exact zAC rfl|(apply zAf;exact rfl;(with_reducible exact zAY);exact rfl)|exact zEE rfl rfl|exact zBr rfl|exact zAi rfl rfl|exact zAh rfl rfl|(apply zAR;exact rfl;(with_reducible first|exact fn_0|exact fn_1|exact fn_2|exact fn_3))|(apply zAU;exact rfl;(with_reducible first|exact zAs|exact zAe|exact zBK|exact zAv);exact rfl;exact rfl)|(apply w1;exact rfl;exact rfl)|(apply gD;exact rfl;exact rfl;(intro hb);rotate_left;(intro hb);rotate_right)|(refine w0' ?_)|(apply zAx;exact rfl;exact rfl;exact rfl;(with_reducible exact zAY);exact rfl;exact rfl;exact rfl;exact rfl)|(apply zAK;exact rfl)|(apply zAQ;exact rfl)|(apply zCc;exact rfl;(intro hb);rotate_left;(intro hb);rotate_right)|apply zAP|apply zAM|refine zA6 (by kernel_rfl) (by kernel_rfl) ?_|apply en_r|apply zAJ|(apply res1;exact rfl)
  all_goals try omega
  all_goals clear hs hi hk _hN hC _hW
  all_goals refine zCr ?_
  all_goals first | (simp_all [genE];done) | (simp_all [genE];omega)
set_option maxHeartbeats 8000000 in
theorem zRM (L : List Nd) (n : Nat) (x _y : Nd) (_kx : Int) (pat : Bool) (nm cn : Bool) (hx : L[n]? = some x) (hlen : n < 2000000) (h : x.kind = 2) (hp : patK x.kind = pat)
    (hs : zAj Tryz.prog 82 [i64 x.kind] (i64 3)) (hi : zAj Tryz.prog 46 [i64 x.kind] (bl pat)) (hk : zAj Tryz.prog 83 [i64 x.kind,i64 x.kids] (bl true))
    (_hN : zAj Tryz.prog 20 [str x.text] (bl nm)) (_hC : zAj Tryz.prog 19 [str x.text] (bl cn)) (_hW : zAj Tryz.prog 81 [i64 x.num] (i64 (W x.num))) :
    zAj Tryz.prog 45 [zAc L,i64 (n : Int),bl pat] (i64 (genE false true none pat true pat x (False))):=by
  obtain rfl : pat = false:=by rw [← hp];unfold patK;exact decide_eq_false (by omega)
  all_goals
    refine zAd Tryz.func45 rfl Tryz.ntmps45 Tryz.results45 rfl ?_
    intro wb St0
    repeat' first | apply en_n|apply zAH|apply zAB|apply zAF|apply w0|(apply kUd (hd:=rfl);exact rfl;exact rfl)|(apply k1ud (hd:=rfl);exact rfl;exact rfl)|(apply k0ud (hd:=rfl);exact rfl;exact rfl)|(apply k1u (hd:=rfl);exact rfl;exact rfl)|(apply zBq;exact rfl;exact rfl;first|assumption|omega)|(apply zBD;exact rfl;exact rfl;first|assumption|omega)|(apply zA9;exact rfl;exact rfl;first|assumption|omega)|(apply zDY;exact rfl;with_reducible exact ustr)|(apply zFS;exact rfl;exact rfl;with_reducible exact zGE)|(refine zAV zC9 hs (zAX rfl zAG))|(refine zAV zD9 hk (zAX rfl (zAX rfl zAG)))|(refine zAV zC1 hi (zAX rfl zAG))|(apply aJ (hd:=rfl);(first|exact zAk rfl|exact Co_bb rfl rfl rfl|exact Co_nn rfl);exact rfl;(with_reducible exact zAW);assumption;omega;exact fun _=>rfl)|(apply zA4 (hd:=rfl) (hro:=rfl);(with_reducible exact zAp))|apply ay (hd:=rfl)|exact zAE rfl|exact zAC rfl|(apply zAf;exact rfl;(with_reducible exact zAY);exact rfl)|exact zEp rfl rfl|exact zEE rfl rfl|exact zBr rfl|exact zAi rfl rfl|exact zAh rfl rfl|(apply zAR;exact rfl;(with_reducible first|exact fn_0|exact fn_1|exact fn_2|exact fn_3))|(apply zAU;exact rfl;(with_reducible first|exact zAs|exact zAe|exact zBK|exact zAv);exact rfl;exact rfl)|(apply w1;exact rfl;exact rfl)|(apply gD;exact rfl;exact rfl;(intro hb);rotate_left;(intro hb);rotate_right)|(refine w0' ?_)|(apply zAx;exact rfl;exact rfl;exact rfl;(with_reducible exact zAY);exact rfl;exact rfl;exact rfl;exact rfl)|(apply zAz;exact rfl;(intro hb);rotate_left;(intro hb);rotate_right)|(apply zAK;exact rfl)|(apply zAQ;exact rfl)|apply zAP|apply zAM|refine zA6 (by kernel_rfl) (by kernel_rfl) ?_|apply en_r|apply zAJ|(apply res1;exact rfl)
  all_goals try omega
  all_goals clear hs hi hk _hN _hC _hW
  all_goals refine zCr ?_
  all_goals first | (simp_all [genE];done) | (simp_all [genE];omega)
end Go.Proofs.YtblomnkamngnbaaGreatDoor
