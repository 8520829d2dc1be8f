import Derived.Test.YtcagoomibpcdlaaGreatDoorMAS
set_option maxHeartbeats 16000000
namespace Go.Proofs.YtcagoomibpcdlaaGreatDoor
open _root_.Go.Proofs.Tryz
open Go.Sx Go.Vm
attribute [local irreducible] zAL Program.underlying Ylds zA2 alex zBZ zBP awp zAb zBh zBg zAW zBF zAp zBG zBR zAr zBV zBY zBe zBM zA8 zBE
def tkT: List Int:=[2,2,2,2,2,2,2,2,1,1,1,2,1,1]
def tkV: List (Nat×Value):=[(0,.int .i64 2),(1,.int .i64 2),(2,.int .i64 2),(3,.int .i64 2),(4,.int .i64 2),(5,.int .i64 2),(6,.int .i64 2),(7,.int .i64 2),(8,.int .i64 1),(9,.int .i64 1),(10,.int .i64 1),(11,.int .i64 2),(12,.int .i64 1),(13,.int .i64 1)]
theorem zdg: prog.built 204 tkV=some (tkT.map (fun n=>Value.int .i64 n)).toArray:=by kernel_rfl
theorem zcD: zBq prog 204=some (List.replicate 14 (.int .i64 0)):=by kernel_rfl
theorem zcR: zBD prog 204=some (true,14):=by kernel_rfl
theorem ze8: zSw prog 204=some (14,1):=by kernel_rfl
theorem zcO{p:Int}(h:0<=p/\p<14): (tkT.map fun n=>SV.d (i64 n))[0+p.toNat*1]?=some (.d (i64 (takes p))):=by
 obtain⟨k,rfl⟩:=Int.eq_ofNat_of_zero_le h.1
 have hk:k<14:=by omega
 match k,hk with
 |0,_|1,_|2,_|3,_|4,_|5,_|6,_|7,_|8,_|9,_|10,_|11,_|12,_|13,_=>rfl
theorem zcN{p:Int}(h:p<0\/p>=14): takes p=0:=if_pos (by omega)
theorem zF4(p:Int): zAb prog 122 [i64 p] (i64 (takes p)):=by
 refine zAj func122 rfl ntmps122 results122 rfl ?_
 intro wb St0
 have hv:0<=p/\p<14->(tkT.map fun n=>SV.d (i64 n))[0+p.toNat*1]?=some (.d (i64 (takes p))):=zcO
 by_cases h:p<0\/p>=14
 ·rw[zcN h]
  rcases h with h|h
  all_goals
   skip
   exact yN
 ·have h1:¬p<0:=fun c=>h (.inl c)
  have h2:¬p>=14:=fun c=>h (.inr c)
  clear h
  exact yM
theorem zTR(m:Img)(r:Raw){u1 u0:Nat}(ht:Tops r u1 u0)(hO:zAW prog 52 [.ptr 0 0,.d (w64 u1),.d (i64 4)] (MX m r) (.d (bl false)) (MX m { r with fin:=4 })):
  zAW prog 95 [.ptr 0 0] (MX m r) .top (MX m { r with fin:=4 }):=by
 obtain⟨h2,hf,hw,hl⟩:=ht
 have hT1:=zCH m r (k:=1) (by omega) hf hl
 refine zBr func95 rfl ntmps95 results95 rfl ?_
 intro wb St0 X fx
 exact yU
theorem zTS(m:Img)(r:Raw){u1 u0:Nat}{t n:Int}(ht:Tops r u1 u0)(hB:BlkQ r u1 4 t n true)(hO:zAW prog 52 [.ptr 0 0,.d (w64 u0),.d (i64 4)] (MX m r) (.d (bl false)) (MX m { r with fin:=4 })):
  zAW prog 95 [.ptr 0 0] (MX m r) .top (MX m { r with fin:=4 }):=by
 obtain⟨h2,hf,hw,hl⟩:=ht
 have hT1:=zCH m r (k:=1) (by omega) hf hl
 have hT0:=zCH m r (k:=0) (by omega) hw hl
 have hO1:=zGf m r hB
 refine zBr func95 rfl ntmps95 results95 rfl ?_
 intro wb St0 X fx
 exact yU
abbrev TxtQ(r:Raw)(w:Nat)(s:List UInt8): Prop:=zAp prog 55 [.ptr 0 0,.d (w64 w)] (HO r.size r.now r.oth r.beg) (.tup [str s,bl true])
theorem zR4(m:Img)(r r':Raw){u1 u0:Nat}{t n t' n':Int}{s1 s0:List UInt8}(ht:Tops r u1 u0)(hB:BlkQ r u1 4 t n true)(hB0:BlkQ r u0 4 t' n' true)(hX1:TxtQ r u1 s1)(hX0:TxtQ r u0 s0)(hl1:s1.length<=200)(hl0:s0.length<=200)(hg:(s1.length:Int)+s0.length>200)
  (hR:zAW prog 50 [.ptr 0 0,.d (i64 (-3))] (MX m r) .top (MX m r')) :
  zAW prog 95 [.ptr 0 0] (MX m r) .top (MX m r'):=by
 obtain⟨h2,hf,hw,hl⟩:=ht
 have hT1:=zCH m r (k:=1) (by omega) hf hl
 have hT0:=zCH m r (k:=0) (by omega) hw hl
 have hO1:=zGf m r hB
 have hO0:=zGf m r hB0
 refine zBr func95 rfl ntmps95 results95 rfl ?_
 intro wb St0 X fx
 exact yH
theorem zWj(m:Img)(r r':Raw){u1 u0:Nat}{t n t' n':Int}{s1 s0:List UInt8}(ht:Tops r u1 u0)(hB:BlkQ r u1 4 t n true)(hB0:BlkQ r u0 4 t' n' true)(hX1:TxtQ r u1 s1)(hX0:TxtQ r u0 s0)(hl1:s1.length<=200)(hl0:s0.length<=200)(hg:¬(s1.length:Int)+s0.length>200)
  (hR:zAW prog 75 [.ptr 0 0,.d (str (s1++s0)),.d (i64 2)] (MX m r) .top (MX m r')) :
  zAW prog 95 [.ptr 0 0] (MX m r) .top (MX m r'):=by
 obtain⟨h2,hf,hw,hl⟩:=ht
 have hT1:=zCH m r (k:=1) (by omega) hf hl
 have hT0:=zCH m r (k:=0) (by omega) hw hl
 have hO1:=zGf m r hB
 have hO0:=zGf m r hB0
 refine zBr func95 rfl ntmps95 results95 rfl ?_
 intro wb St0 X fx
 exact yH
theorem zUN(m:Img)(r r':Raw){k:Nat}{n:Int}{t:List UInt8}(hk:m.pool[k]?=some ⟨true,n,t⟩)(_hp:m.pool.length<=1048576)(hR:zAW prog 75 [.ptr 0 0,.d (str t),.d (i64 0)] (MX m r) .top (MX m r')):
  zAW prog 38 [.ptr 0 0,.d (i64 (k:Int))] (MX m r) .top (MX m r'):=by
 have hkl:=(qAA.1 hk).1
 have hkv:(m.pool)[((k:Int)).toNat]?=some ⟨true,n,t⟩:=by rw[qAn];exact hk
 refine zBr func38 rfl ntmps38 results38 rfl ?_
 intro wb St0 X fx
 exact yR
theorem zUO(m:Img)(r:Raw){k:Nat}{n:Int}{t:List UInt8}(hk:m.pool[k]?=some ⟨false,n,t⟩)(_hp:m.pool.length<=1048576)(hl:r.stk.length<=1048576)(h:(r.stk.length:Int)+1>4000):
  zAW prog 38 [.ptr 0 0,.d (i64 (k:Int))] (MX m r) .top (MX m { r with fin:=6 }):=by
 have hkl:=(qAA.1 hk).1
 have hkv:(m.pool)[((k:Int)).toNat]?=some ⟨false,n,t⟩:=by rw[qAn];exact hk
 have hR:=zKZ m r (k:=1) hl (by omega) h
 refine zBr func38 rfl ntmps38 results38 rfl ?_
 intro wb St0 X fx
 exact yR
theorem zXP(m:Img)(r:Raw){k:Nat}{n:Int}{t:List UInt8}(hk:m.pool[k]?=some ⟨false,n,t⟩)(_hp:m.pool.length<=1048576)(hl:r.stk.length<=1048576)(h:¬(r.stk.length:Int)+1>4000):
  zAW prog 38 [.ptr 0 0,.d (i64 (k:Int))] (MX m r) .top (MX m { r with stk:=r.stk++[nW n] }):=by
 have hkl:=(qAA.1 hk).1
 have hkv:(m.pool)[((k:Int)).toNat]?=some ⟨false,n,t⟩:=by rw[qAn];exact hk
 have hR:=zUn (zJ0 m r (k:=1) hl (by omega) h)
 have hP:=zIw m r (w:=nW n) hl
 have hN:=zRq [] [] n
 refine zBr func38 rfl ntmps38 results38 rfl ?_
 intro wb St0 X fx
 exact yR
