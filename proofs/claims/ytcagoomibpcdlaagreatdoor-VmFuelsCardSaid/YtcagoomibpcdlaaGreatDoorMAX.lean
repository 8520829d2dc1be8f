/- Texts of this claim, merged: VmBL. -/
import Derived.Test.YtcagoomibpcdlaaGreatDoorMAB
import Derived.Test.YtcagoomibpcdlaaGreatDoorMAW
namespace Go.Proofs.YtcagoomibpcdlaaGreatDoor
open Go.Sx Go.Vm
attribute [local irreducible] zAQ Program.underlying Ylds zBD alex zCA zBi awp zAp zCI zCH zAW zBw zA5 zB0 zBp zBF zBv zB9 zCE zBn zBm zBs
def tkT: List Int:=[2,2,2,2,2,2,2,2,1,1,1,2,1,1]
def tkV: List (Nat×Value):=[(0,.int .i64 2),(1,.int .i64 2),(2,.int .i64 2),(3,.int .i64 2),(4,.int .i64 2),(5,.int .i64 2),(6,.int .i64 2),(7,.int .i64 2),(8,.int .i64 1),(9,.int .i64 1),(10,.int .i64 1),(11,.int .i64 2),(12,.int .i64 1),(13,.int .i64 1)]
theorem zYG: Tryz.prog.built 204 tkV=some (tkT.map (fun n=>Value.int .i64 n)).toArray:=by kernel_rfl
theorem zW6: zB3 Tryz.prog 204=some (List.replicate 14 (.int .i64 0)):=by kernel_rfl
theorem zXL: zBH Tryz.prog 204=some (true,14):=by kernel_rfl
theorem zZR: zO9 Tryz.prog 204=some (14,1):=by kernel_rfl
theorem zXI{p:Int}(h:0≤p∧p<14): (tkT.map fun n=>SV.d (i64 n))[0+p.toNat*1]?=some (.d (i64 (takes p))):=by
 obtain⟨k,rfl⟩:=Int.eq_ofNat_of_zero_le h.1
 have hk:k<14:=by omega
 match k,hk with
 |0,_|1,_|2,_|3,_|4,_|5,_|6,_|7,_|8,_|9,_|10,_|11,_|12,_|13,_=>rfl
theorem zXH{p:Int}(h:p<0∨p≥14): takes p=0:=if_pos (by omega)
theorem zEk(p:Int): zAp Tryz.prog 122 [i64 p] (i64 (takes p)):=by
 refine zA8 Tryz.func122 rfl Tryz.ntmps122 Tryz.results122 rfl ?_
 intro wb St0
 have hv:0≤p∧p<14→(tkT.map fun n=>SV.d (i64 n))[0+p.toNat*1]?=some (.d (i64 (takes p))):=zXI
 by_cases h:p<0∨p≥14
 ·rw[zXH h]
  rcases h with h|h
  all_goals
   skip
   repeat' first|apply en_n|apply zAK|apply zAA|apply zAF|apply w0|(apply zC9;exact rfl;exact rfl;first|assumption|omega)|(apply zCk;exact rfl;exact rfl;first|assumption|omega)|(apply zJW;exact rfl;exact rfl;first|assumption|omega)|(refine zOB (vs:=tkV) (cells:=tkT.map (fun n=>Value.int .i64 n)) (by repeat (first|exact trivial|refine⟨⟨rfl,rfl⟩,?_⟩)) zYG rfl)|(apply zDs (hd:=rfl) (hro:=rfl);exact zW6)|(apply zAl;exact rfl;exact rfl;exact rfl;exact zXL;exact rfl;exact rfl;exact rfl;exact rfl)|apply ay (hd:=rfl)|exact zAJ rfl|exact zAD rfl|exact zAj rfl rfl|exact zAc rfl rfl|(apply w1;exact rfl;exact rfl)|(apply k0 (hd:=rfl);exact rfl;exact rfl)|(refine w0' ?_)|(apply zAL;exact rfl)|apply zAT|apply en_r|apply zAY|(apply res1;exact rfl)
   all_goals first|omega|rfl
 ·have h1:¬p<0:=fun c=>h (.inl c)
  have h2:¬p≥14:=fun c=>h (.inr c)
  clear h
  repeat' first|apply en_n|apply zAK|apply zAA|apply zAF|apply w0|(apply zCk;exact rfl;exact rfl;first|assumption|omega)|(apply zH8;exact rfl;exact rfl;first|assumption|omega)|(refine zOB (vs:=tkV) (cells:=tkT.map (fun n=>Value.int .i64 n)) (by repeat (first|exact trivial|refine⟨⟨rfl,rfl⟩,?_⟩)) zYG rfl)|(apply zDs (hd:=rfl) (hro:=rfl);exact zW6)|(apply zAl;exact rfl;exact rfl;exact rfl;exact zXL;exact rfl;exact rfl;exact rfl;exact rfl)|(refine zMz rfl rfl zZR (by omega))|(refine zAG rfl zAS rfl (hv (by omega)))|apply ay (hd:=rfl)|exact zAJ rfl|exact zAD rfl|exact zAc rfl rfl|(apply w1;exact rfl;exact rfl)|(refine w0' ?_)|(apply zAM;exact rfl)|apply zAU|apply zAT|apply zAY|(apply res1;exact rfl)
  all_goals first|omega|rfl
theorem zPa(m:Img)(r:Raw){u1 u0:Nat}(ht:Tops r u1 u0)(hO:zAW Tryz.prog 52 [.ptr 0 0,.d (w64 u1),.d (i64 4)] (MX m r) (.d (bl false)) (MX m { r with fin:=4 })):
  zAW Tryz.prog 95 [.ptr 0 0] (MX m r) .top (MX m { r with fin:=4 }):=by
 obtain⟨h2,hf,hw,hl⟩:=ht
 have hT1:=zBl m r (k:=1) (by omega) hf hl
 refine zAy Tryz.func95 rfl Tryz.ntmps95 Tryz.results95 rfl ?_
 intro wb St0 X fx
 repeat' first|apply en_n|apply zAK|apply zAA|apply zAF|apply w0|(apply k0u (hd:=rfl);exact rfl;exact rfl)|(refine zAZ ids9 [] rfl rfl zAv (hT1) rfl ?_ rfl (by decide) rfl rfl rfl rfl;(repeat (refine zAB rfl ?_));exact zAE)|(refine aVM zCQ (hO) ?_ rfl rfl ?_;(repeat (refine zAB rfl ?_));exact zAE)|apply ay (hd:=rfl)|exact zAJ rfl|exact zBd rfl|exact zAj rfl rfl|exact zAH rfl|(apply zAL;exact rfl)|apply zAT|apply en_r
 all_goals exact zDJ rfl
theorem zPb(m:Img)(r:Raw){u1 u0:Nat}{t n:Int}(ht:Tops r u1 u0)(hB:BlkQ r u1 4 t n true)(hO:zAW Tryz.prog 52 [.ptr 0 0,.d (w64 u0),.d (i64 4)] (MX m r) (.d (bl false)) (MX m { r with fin:=4 })):
  zAW Tryz.prog 95 [.ptr 0 0] (MX m r) .top (MX m { r with fin:=4 }):=by
 obtain⟨h2,hf,hw,hl⟩:=ht
 have hT1:=zBl m r (k:=1) (by omega) hf hl
 have hT0:=zBl m r (k:=0) (by omega) hw hl
 have hO1:=zFA m r hB
 refine zAy Tryz.func95 rfl Tryz.ntmps95 Tryz.results95 rfl ?_
 intro wb St0 X fx
 repeat' first|apply en_n|apply zAK|apply zAA|apply zAF|apply w0|(refine zAZ ids9 [] rfl rfl zAv (hT1) rfl ?_ rfl (by decide) rfl rfl rfl rfl;(repeat (refine zAB rfl ?_));exact zAE)|(refine zAZ ids9 [] rfl rfl zAv (hT0) rfl ?_ rfl (by decide) rfl rfl rfl rfl;(repeat (refine zAB rfl ?_));exact zAE)|(refine zAZ ids9 [] rfl rfl zCQ (hO1) rfl ?_ rfl (by decide) rfl rfl rfl rfl;(repeat (refine zAB rfl ?_));exact zAE)|(refine aVM zCQ (hO) ?_ rfl rfl ?_;(repeat (refine zAB rfl ?_));exact zAE)|apply ay (hd:=rfl)|exact zAJ rfl|exact zBd rfl|exact zAc rfl rfl|exact zAH rfl|(apply w1;exact rfl;exact rfl)|(apply zAL;exact rfl)|apply zAT|apply en_r
 all_goals exact zDJ rfl
abbrev TxtQ(r:Raw)(w:Nat)(s:List UInt8): Prop:=zA5 Tryz.prog 55 [.ptr 0 0,.d (w64 w)] (HO r.size r.now r.oth r.beg) (.tup [str s,bl true])
theorem zOR(m:Img)(r r':Raw){u1 u0:Nat}{t n t' n':Int}{s1 s0:List UInt8}(ht:Tops r u1 u0)(hB:BlkQ r u1 4 t n true)(hB0:BlkQ r u0 4 t' n' true)(hX1:TxtQ r u1 s1)(hX0:TxtQ r u0 s0)(hl1:s1.length≤200)(hl0:s0.length≤200)(hg:(s1.length:Int)+s0.length>200)
  (hR:zAW Tryz.prog 50 [.ptr 0 0,.d (i64 (-3))] (MX m r) .top (MX m r')) :
  zAW Tryz.prog 95 [.ptr 0 0] (MX m r) .top (MX m r'):=by
 obtain⟨h2,hf,hw,hl⟩:=ht
 have hT1:=zBl m r (k:=1) (by omega) hf hl
 have hT0:=zBl m r (k:=0) (by omega) hw hl
 have hO1:=zFA m r hB
 have hO0:=zFA m r hB0
 refine zAy Tryz.func95 rfl Tryz.ntmps95 Tryz.results95 rfl ?_
 intro wb St0 X fx
 repeat' first|apply en_n|apply zAK|apply zAA|apply zAF|apply w0|(apply zE2;exact rfl;exact rfl;first|assumption|omega)|(apply zFx;exact rfl;with_reducible exact ustr)|exact zAN rfl|(refine zAZ ids9 [] rfl rfl zAv (hT1) rfl ?_ rfl (by decide) rfl rfl rfl rfl;(repeat (refine zAB rfl ?_));exact zAE)|(refine zAZ ids9 [] rfl rfl zAv (hT0) rfl ?_ rfl (by decide) rfl rfl rfl rfl;(repeat (refine zAB rfl ?_));exact zAE)|(refine zAZ ids9 [] rfl rfl zCQ (hO1) rfl ?_ rfl (by decide) rfl rfl rfl rfl;(repeat (refine zAB rfl ?_));exact zAE)|(refine zAZ ids9 [] rfl rfl zCQ (hO0) rfl ?_ rfl (by decide) rfl rfl rfl rfl;(repeat (refine zAB rfl ?_));exact zAE)|(refine zAZ [1,2,3,4] [] rfl rfl zEE (hX1) rfl ?_ rfl (by decide) rfl rfl rfl rfl;(repeat (refine zAB rfl ?_));exact zAE)|(refine zAZ [1,2,3,4] [] rfl rfl zEE (hX0) rfl ?_ rfl (by decide) rfl rfl rfl rfl;(repeat (refine zAB rfl ?_));exact zAE)|(refine aVM zG5 (hR) ?_ rfl rfl ?_;(repeat (refine zAB rfl ?_));exact zAE)|apply ay (hd:=rfl)|exact zAJ rfl|exact zAD rfl|(apply zBL;exact rfl;exact rfl)|exact zBd rfl|exact zAc rfl rfl|exact zAm rfl rfl|exact zAH rfl|(apply zAC;exact rfl;(with_reducible exact zBV))|(apply zAG;exact rfl;(with_reducible exact zBg);exact rfl;exact rfl)|(apply w1;exact rfl;exact rfl)|(apply zAL;exact rfl)|(apply zAM;exact rfl)|apply zAU|apply zAT|refine zAr (by kernel_rfl) (by kernel_rfl) ?_|apply en_r
 all_goals first|omega|skip
 all_goals exact zDJ rfl
theorem zSO(m:Img)(r r':Raw){u1 u0:Nat}{t n t' n':Int}{s1 s0:List UInt8}(ht:Tops r u1 u0)(hB:BlkQ r u1 4 t n true)(hB0:BlkQ r u0 4 t' n' true)(hX1:TxtQ r u1 s1)(hX0:TxtQ r u0 s0)(hl1:s1.length≤200)(hl0:s0.length≤200)(hg:¬(s1.length:Int)+s0.length>200)
  (hR:zAW Tryz.prog 75 [.ptr 0 0,.d (str (s1++s0)),.d (i64 2)] (MX m r) .top (MX m r')) :
  zAW Tryz.prog 95 [.ptr 0 0] (MX m r) .top (MX m r'):=by
 obtain⟨h2,hf,hw,hl⟩:=ht
 have hT1:=zBl m r (k:=1) (by omega) hf hl
 have hT0:=zBl m r (k:=0) (by omega) hw hl
 have hO1:=zFA m r hB
 have hO0:=zFA m r hB0
 refine zAy Tryz.func95 rfl Tryz.ntmps95 Tryz.results95 rfl ?_
 intro wb St0 X fx
 repeat' first|apply en_n|apply zAK|apply zAA|apply zAF|apply w0|(apply zDt;exact rfl;exact rfl;first|assumption|omega)|(apply zFx;exact rfl;with_reducible exact ustr)|(apply zWn;exact rfl;exact rfl;omega)|exact zAN rfl|(refine zAZ ids9 [] rfl rfl zAv (hT1) rfl ?_ rfl (by decide) rfl rfl rfl rfl;(repeat (refine zAB rfl ?_));exact zAE)|(refine zAZ ids9 [] rfl rfl zAv (hT0) rfl ?_ rfl (by decide) rfl rfl rfl rfl;(repeat (refine zAB rfl ?_));exact zAE)|(refine zAZ ids9 [] rfl rfl zCQ (hO1) rfl ?_ rfl (by decide) rfl rfl rfl rfl;(repeat (refine zAB rfl ?_));exact zAE)|(refine zAZ ids9 [] rfl rfl zCQ (hO0) rfl ?_ rfl (by decide) rfl rfl rfl rfl;(repeat (refine zAB rfl ?_));exact zAE)|(refine zAZ [1,2,3,4] [] rfl rfl zEE (hX1) rfl ?_ rfl (by decide) rfl rfl rfl rfl;(repeat (refine zAB rfl ?_));exact zAE)|(refine zAZ [1,2,3,4] [] rfl rfl zEE (hX0) rfl ?_ rfl (by decide) rfl rfl rfl rfl;(repeat (refine zAB rfl ?_));exact zAE)|(refine aVM zJx (hR) ?_ rfl rfl ?_;(repeat (refine zAB rfl ?_));exact zAE)|apply ay (hd:=rfl)|exact zAJ rfl|exact zAD rfl|(apply zBL;exact rfl;exact rfl)|exact zBd rfl|exact zAc rfl rfl|exact zAm rfl rfl|exact zAH rfl|(apply zAC;exact rfl;(with_reducible exact zBV))|(apply zAG;exact rfl;(with_reducible exact zBg);exact rfl;exact rfl)|(apply w1;exact rfl;exact rfl)|(apply zAM;exact rfl)|apply zAU|refine zAr (by kernel_rfl) (by kernel_rfl) ?_
 all_goals first|omega|skip
 all_goals exact zDz rfl
theorem zQL(m:Img)(r r':Raw){k:Nat}{n:Int}{t:List UInt8}(hk:m.pool[k]?=some ⟨true,n,t⟩)(_hp:m.pool.length≤1048576)(hR:zAW Tryz.prog 75 [.ptr 0 0,.d (str t),.d (i64 0)] (MX m r) .top (MX m r')):
  zAW Tryz.prog 38 [.ptr 0 0,.d (i64 (k:Int))] (MX m r) .top (MX m r'):=by
 have hkl:=(List.getElem?_eq_some_iff.1 hk).1
 have hkv:(m.pool)[((k:Int)).toNat]?=some ⟨true,n,t⟩:=by rw[Int.toNat_natCast];exact hk
 refine zAy Tryz.func38 rfl Tryz.ntmps38 Tryz.results38 rfl ?_
 intro wb St0 X fx
 repeat' first|apply en_n|apply zAK|apply zAA|apply zAF|apply w0|exact zAN rfl|(refine aVMt (m:=m) (r:=r) (fx:=fx) (tl:=[.bx none none [.d (bl true),.d (i64 n),.d (str t)]]) zJx hR ?_ rfl rfl rfl rfl ?_;(repeat (refine zAB rfl ?_));exact zAE)|(apply aJ (hd:=rfl);(first|exact zCw rfl|exact zDn rfl rfl rfl|exact Co_nn rfl);exact rfl;(with_reducible exact zD7);assumption;omega;exact fun _=>rfl)|(apply zDs (hd:=rfl) (hro:=rfl);(with_reducible exact zIk))|apply ay (hd:=rfl)|exact zAJ rfl|(apply zBU;exact rfl;(with_reducible exact zEW);exact rfl)|exact zAH rfl|(apply zAC;exact rfl;(with_reducible first|exact zCi|exact zDa|exact zEM|exact zBB))|(apply zAG;exact rfl;(with_reducible first|exact zA0|exact zFg|exact zAg);exact rfl;exact rfl)|(refine w0' ?_)|(apply zAl;exact rfl;exact rfl;exact rfl;(with_reducible exact zEW);exact rfl;exact rfl;exact rfl;exact rfl)|(apply zAL;exact rfl)
 all_goals first|omega|skip
 all_goals exact zBM rfl rfl
theorem zQM(m:Img)(r:Raw){k:Nat}{n:Int}{t:List UInt8}(hk:m.pool[k]?=some ⟨false,n,t⟩)(_hp:m.pool.length≤1048576)(hl:r.stk.length≤1048576)(h:(r.stk.length:Int)+1>4000):
  zAW Tryz.prog 38 [.ptr 0 0,.d (i64 (k:Int))] (MX m r) .top (MX m { r with fin:=6 }):=by
 have hkl:=(List.getElem?_eq_some_iff.1 hk).1
 have hkv:(m.pool)[((k:Int)).toNat]?=some ⟨false,n,t⟩:=by rw[Int.toNat_natCast];exact hk
 have hR:=zIV m r (k:=1) hl (by omega) h
 refine zAy Tryz.func38 rfl Tryz.ntmps38 Tryz.results38 rfl ?_
 intro wb St0 X fx
 repeat' first|apply en_n|apply zAK|apply zAA|apply zAF|apply w0|exact zAN rfl|(refine aVMt (m:=m) (r:=r) (fx:=fx) (tl:=[.bx none none [.d (bl false),.d (i64 n),.d (str t)]]) zCa hR ?_ rfl rfl rfl rfl ?_;(repeat (refine zAB rfl ?_));exact zAE)|(apply aJ (hd:=rfl);(first|exact zCw rfl|exact zDn rfl rfl rfl|exact Co_nn rfl);exact rfl;(with_reducible exact zD7);assumption;omega;exact fun _=>rfl)|(apply zDs (hd:=rfl) (hro:=rfl);(with_reducible exact zIk))|apply ay (hd:=rfl)|exact zAJ rfl|(apply zBU;exact rfl;(with_reducible exact zEW);exact rfl)|exact zBd rfl|exact zAH rfl|(apply zAC;exact rfl;(with_reducible first|exact zCi|exact zDa|exact zBB))|(apply zAG;exact rfl;(with_reducible first|exact zA0|exact zAg);exact rfl;exact rfl)|(refine w0' ?_)|(apply zAl;exact rfl;exact rfl;exact rfl;(with_reducible exact zEW);exact rfl;exact rfl;exact rfl;exact rfl)|(apply zAM;exact rfl)|apply zAU
 all_goals first|omega|skip
 all_goals exact zBM rfl rfl
theorem zSx(m:Img)(r:Raw){k:Nat}{n:Int}{t:List UInt8}(hk:m.pool[k]?=some ⟨false,n,t⟩)(_hp:m.pool.length≤1048576)(hl:r.stk.length≤1048576)(h:¬(r.stk.length:Int)+1>4000):
  zAW Tryz.prog 38 [.ptr 0 0,.d (i64 (k:Int))] (MX m r) .top (MX m { r with stk:=r.stk++[nW n] }):=by
 have hkl:=(List.getElem?_eq_some_iff.1 hk).1
 have hkv:(m.pool)[((k:Int)).toNat]?=some ⟨false,n,t⟩:=by rw[Int.toNat_natCast];exact hk
 have hR:=zQe (zHt m r (k:=1) hl (by omega) h)
 have hP:=zGy m r (w:=nW n) hl
 have hN:=zOF [] [] n
 refine zAy Tryz.func38 rfl Tryz.ntmps38 Tryz.results38 rfl ?_
 intro wb St0 X fx
 repeat' first|apply en_n|apply zAK|apply zAA|apply zAF|apply w0|exact zAN rfl|(refine zAh zFr hN (zAa rfl zAR))|(refine aVMt (m:=m) (r:=r) (fx:=fx) (tl:=[.bx none none [.d (bl false),.d (i64 n),.d (str t)]]) zCa hR ?_ rfl rfl rfl rfl ?_;(repeat (refine zAB rfl ?_));exact zAE)|(refine aVMt (m:=m) (r:=r) (fx:=fx) (tl:=[.bx none none [.d (bl false),.d (i64 n),.d (str t)]]) zD1 hP ?_ rfl rfl rfl rfl ?_;(repeat (refine zAB rfl ?_));exact zAE)|(apply aJ (hd:=rfl);(first|exact zCw rfl|exact zDn rfl rfl rfl|exact Co_nn rfl);exact rfl;(with_reducible exact zD7);assumption;omega;exact fun _=>rfl)|(apply zDs (hd:=rfl) (hro:=rfl);(with_reducible exact zIk))|apply ay (hd:=rfl)|exact zAJ rfl|(apply zBU;exact rfl;(with_reducible exact zEW);exact rfl)|exact zBd rfl|exact zAH rfl|(apply zAC;exact rfl;(with_reducible first|exact zCi|exact zDa|exact zFP|exact zBB))|(apply zAG;exact rfl;(with_reducible first|exact zA0|exact zFh|exact zAg);exact rfl;exact rfl)|(refine w0' ?_)|(apply zAl;exact rfl;exact rfl;exact rfl;(with_reducible exact zEW);exact rfl;exact rfl;exact rfl;exact rfl)|(apply zAL;exact rfl)|(apply zAM;exact rfl)
 all_goals first|omega|skip
 all_goals exact zBM rfl rfl
end Go.Proofs.YtcagoomibpcdlaaGreatDoor
