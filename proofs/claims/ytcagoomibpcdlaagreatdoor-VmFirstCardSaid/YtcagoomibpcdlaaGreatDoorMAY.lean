/- Parts of the proof. -/
import Derived.Test.YtcagoomibpcdlaaGreatDoorMAX
set_option maxHeartbeats 16000000
namespace Go.Proofs.YtcagoomibpcdlaaGreatDoor
open _root_.Go.Proofs.Tryz
open Go.Sx Go.Vm
attribute [local irreducible] zAN Program.underlying Ylds zA9 alex zB3 zBf awp zAi zCC zCB zAU zBl zAz zBq zBj zBB zBr zB2 zB8 zBi zBd zBg
def tkT: List Int:=[2,2,2,2,2,2,2,2,1,1,1,2,1,1]
def tkV: List (Nat×Value):=[(0,.int .i64 2),(1,.int .i64 2),(2,.int .i64 2),(3,.int .i64 2),(4,.int .i64 2),(5,.int .i64 2),(6,.int .i64 2),(7,.int .i64 2),(8,.int .i64 1),(9,.int .i64 1),(10,.int .i64 1),(11,.int .i64 2),(12,.int .i64 1),(13,.int .i64 1)]
theorem zY5: prog.built 204 tkV=some (tkT.map (fun n=>Value.int .i64 n)).toArray:=by kernel_rfl
theorem zXx: zB6 prog 204=some (List.replicate 14 (.int .i64 0)):=by kernel_rfl
theorem zYB: zBF prog 204=some (true,14):=by kernel_rfl
theorem zaC: zPm prog 204=some (14,1):=by kernel_rfl
theorem zX8{p:Int}(h:0<=p/\p<14): (tkT.map fun n=>SV.d (i64 n))[0+p.toNat*1]?=some (.d (i64 (takes p))):=by
 obtain⟨k,rfl⟩:=Int.eq_ofNat_of_zero_le h.1
 have hk:k<14:=by omega
 match k,hk with
 |0,_|1,_|2,_|3,_|4,_|5,_|6,_|7,_|8,_|9,_|10,_|11,_|12,_|13,_=>rfl
theorem zX7{p:Int}(h:p<0\/p>=14): takes p=0:=if_pos (by omega)
theorem zEx(p:Int): zAi prog 122 [i64 p] (i64 (takes p)):=by
 refine zAs func122 rfl ntmps122 results122 rfl ?_
 intro wb St0
 have hv:0<=p/\p<14->(tkT.map fun n=>SV.d (i64 n))[0+p.toNat*1]?=some (.d (i64 (takes p))):=zX8
 by_cases h:p<0\/p>=14
 ·rw[zX7 h]
  rcases h with h|h
  all_goals
   skip
   repeat' first|apply en_n|apply zAH|apply zAA|apply zAD|apply w0|exact zC9 rfl rfl|exact zCm rfl rfl|exact zJo rfl rfl|(refine zOm (vs:=tkV) (cells:=tkT.map (fun n=>Value.int .i64 n)) (by repeat (first|exact trivial|refine⟨⟨rfl,rfl⟩,?_⟩)) zY5 rfl)|(apply zDI (hd:=rfl) (hro:=rfl);exact zXx)|refine zAh rfl rfl rfl zYB rfl rfl rfl rfl ?_|apply ay (hd:=rfl)|exact zAF rfl|exact zAB rfl|exact zAa rfl rfl|exact zAX rfl rfl|refine w1 rfl rfl ?_|(apply k0 (hd:=rfl);exact rfl;exact rfl)|(refine w0' ?_)|refine zAI rfl ?_|apply zAQ|apply en_r|apply zAR|refine res1 rfl ?_
   all_goals first|omega|rfl
 ·have h1:¬p<0:=fun c=>h (.inl c)
  have h2:¬p>=14:=fun c=>h (.inr c)
  clear h
  repeat' first|apply en_n|apply zAH|apply zAA|apply zAD|apply w0|exact zCm rfl rfl|exact zIP rfl rfl|(refine zOm (vs:=tkV) (cells:=tkT.map (fun n=>Value.int .i64 n)) (by repeat (first|exact trivial|refine⟨⟨rfl,rfl⟩,?_⟩)) zY5 rfl)|(apply zDI (hd:=rfl) (hro:=rfl);exact zXx)|refine zAh rfl rfl rfl zYB rfl rfl rfl rfl ?_|(refine zNU rfl rfl zaC (by omega))|(refine zAE rfl zAP rfl (hv (by omega)))|apply ay (hd:=rfl)|exact zAF rfl|exact zAB rfl|exact zAX rfl rfl|refine w1 rfl rfl ?_|(refine w0' ?_)|refine zAJ rfl ?_|apply zAS|apply zAQ|apply zAR|refine res1 rfl ?_
  all_goals first|omega|rfl
theorem zQB(m:Img)(r:Raw){u1 u0:Nat}(ht:Tops r u1 u0)(hO:zAU prog 52 [.ptr 0 0,.d (w64 u1),.d (i64 4)] (MX m r) (.d (bl false)) (MX m { r with fin:=4 })):
  zAU prog 95 [.ptr 0 0] (MX m r) .top (MX m { r with fin:=4 }):=by
 obtain⟨h2,hf,hw,hl⟩:=ht
 have hT1:=zBt m r (k:=1) (by omega) hf hl
 refine zAx func95 rfl ntmps95 results95 rfl ?_
 intro wb St0 X fx
 repeat' first|apply en_n|apply zAH|apply zAA|apply zAD|apply w0|(apply k0u (hd:=rfl);exact rfl;exact rfl)|(refine zAW ids9 [] rfl rfl zAr (hT1) rfl (SArgs_all rfl) rfl (by decide) rfl rfl rfl rfl)|(refine aVM zCP (hO) (SArgs_all rfl) rfl rfl ?_)|apply ay (hd:=rfl)|exact zAF rfl|exact zBX rfl|exact zAa rfl rfl|exact zAG rfl|refine zAI rfl ?_|apply zAQ|apply en_r
 all_goals exact zDT rfl
theorem zQC(m:Img)(r:Raw){u1 u0:Nat}{t n:Int}(ht:Tops r u1 u0)(hB:BlkQ r u1 4 t n true)(hO:zAU prog 52 [.ptr 0 0,.d (w64 u0),.d (i64 4)] (MX m r) (.d (bl false)) (MX m { r with fin:=4 })):
  zAU prog 95 [.ptr 0 0] (MX m r) .top (MX m { r with fin:=4 }):=by
 obtain⟨h2,hf,hw,hl⟩:=ht
 have hT1:=zBt m r (k:=1) (by omega) hf hl
 have hT0:=zBt m r (k:=0) (by omega) hw hl
 have hO1:=zFQ m r hB
 refine zAx func95 rfl ntmps95 results95 rfl ?_
 intro wb St0 X fx
 repeat' first|apply en_n|apply zAH|apply zAA|apply zAD|apply w0|(refine zAW ids9 [] rfl rfl zAr (hT1) rfl (SArgs_all rfl) rfl (by decide) rfl rfl rfl rfl)|(refine zAW ids9 [] rfl rfl zAr (hT0) rfl (SArgs_all rfl) rfl (by decide) rfl rfl rfl rfl)|(refine zAW ids9 [] rfl rfl zCP (hO1) rfl (SArgs_all rfl) rfl (by decide) rfl rfl rfl rfl)|(refine aVM zCP (hO) (SArgs_all rfl) rfl rfl ?_)|apply ay (hd:=rfl)|exact zAF rfl|exact zBX rfl|exact zAX rfl rfl|exact zAG rfl|refine w1 rfl rfl ?_|refine zAI rfl ?_|apply zAQ|apply en_r
 all_goals exact zDT rfl
abbrev TxtQ(r:Raw)(w:Nat)(s:List UInt8): Prop:=zAz prog 55 [.ptr 0 0,.d (w64 w)] (HO r.size r.now r.oth r.beg) (.tup [str s,bl true])
theorem zO2(m:Img)(r r':Raw){u1 u0:Nat}{t n t' n':Int}{s1 s0:List UInt8}(ht:Tops r u1 u0)(hB:BlkQ r u1 4 t n true)(hB0:BlkQ r u0 4 t' n' true)(hX1:TxtQ r u1 s1)(hX0:TxtQ r u0 s0)(hl1:s1.length<=200)(hl0:s0.length<=200)(hg:(s1.length:Int)+s0.length>200)
  (hR:zAU prog 50 [.ptr 0 0,.d (i64 (-3))] (MX m r) .top (MX m r')) :
  zAU prog 95 [.ptr 0 0] (MX m r) .top (MX m r'):=by
 obtain⟨h2,hf,hw,hl⟩:=ht
 have hT1:=zBt m r (k:=1) (by omega) hf hl
 have hT0:=zBt m r (k:=0) (by omega) hw hl
 have hO1:=zFQ m r hB
 have hO0:=zFQ m r hB0
 refine zAx func95 rfl ntmps95 results95 rfl ?_
 intro wb St0 X fx
 repeat' first|apply en_n|apply zAH|apply zAA|apply zAD|apply w0|exact zEk rfl rfl|(apply zEh;exact rfl;with_reducible exact ustr)|exact zAK rfl|(refine zAW ids9 [] rfl rfl zAr (hT1) rfl (SArgs_all rfl) rfl (by decide) rfl rfl rfl rfl)|(refine zAW ids9 [] rfl rfl zAr (hT0) rfl (SArgs_all rfl) rfl (by decide) rfl rfl rfl rfl)|(refine zAW ids9 [] rfl rfl zCP (hO1) rfl (SArgs_all rfl) rfl (by decide) rfl rfl rfl rfl)|(refine zAW ids9 [] rfl rfl zCP (hO0) rfl (SArgs_all rfl) rfl (by decide) rfl rfl rfl rfl)|(refine zAW [1,2,3,4] [] rfl rfl zEP (hX1) rfl (SArgs_all rfl) rfl (by decide) rfl rfl rfl rfl)|(refine zAW [1,2,3,4] [] rfl rfl zEP (hX0) rfl (SArgs_all rfl) rfl (by decide) rfl rfl rfl rfl)|(refine aVM zHK (hR) (SArgs_all rfl) rfl rfl ?_)|apply ay (hd:=rfl)|exact zAF rfl|exact zAB rfl|refine zBE rfl rfl ?_|exact zBX rfl|exact zAX rfl rfl|exact zAg rfl rfl|exact zAG rfl|exact zAC rfl zBS|exact zAE rfl zBn rfl rfl|refine w1 rfl rfl ?_|refine zAI rfl ?_|refine zAJ rfl ?_|apply zAS|apply zAQ|refine zAj (by kernel_rfl) (by kernel_rfl) ?_|apply en_r
 all_goals first|omega|skip
 all_goals exact zDT rfl
theorem zS1(m:Img)(r r':Raw){u1 u0:Nat}{t n t' n':Int}{s1 s0:List UInt8}(ht:Tops r u1 u0)(hB:BlkQ r u1 4 t n true)(hB0:BlkQ r u0 4 t' n' true)(hX1:TxtQ r u1 s1)(hX0:TxtQ r u0 s0)(hl1:s1.length<=200)(hl0:s0.length<=200)(hg:¬(s1.length:Int)+s0.length>200)
  (hR:zAU prog 75 [.ptr 0 0,.d (str (s1++s0)),.d (i64 2)] (MX m r) .top (MX m r')) :
  zAU prog 95 [.ptr 0 0] (MX m r) .top (MX m r'):=by
 obtain⟨h2,hf,hw,hl⟩:=ht
 have hT1:=zBt m r (k:=1) (by omega) hf hl
 have hT0:=zBt m r (k:=0) (by omega) hw hl
 have hO1:=zFQ m r hB
 have hO0:=zFQ m r hB0
 refine zAx func95 rfl ntmps95 results95 rfl ?_
 intro wb St0 X fx
 repeat' first|apply en_n|apply zAH|apply zAA|apply zAD|apply w0|exact zDs rfl rfl|(apply zEh;exact rfl;with_reducible exact ustr)|(apply zXe;exact rfl;exact rfl;omega)|exact zAK rfl|(refine zAW ids9 [] rfl rfl zAr (hT1) rfl (SArgs_all rfl) rfl (by decide) rfl rfl rfl rfl)|(refine zAW ids9 [] rfl rfl zAr (hT0) rfl (SArgs_all rfl) rfl (by decide) rfl rfl rfl rfl)|(refine zAW ids9 [] rfl rfl zCP (hO1) rfl (SArgs_all rfl) rfl (by decide) rfl rfl rfl rfl)|(refine zAW ids9 [] rfl rfl zCP (hO0) rfl (SArgs_all rfl) rfl (by decide) rfl rfl rfl rfl)|(refine zAW [1,2,3,4] [] rfl rfl zEP (hX1) rfl (SArgs_all rfl) rfl (by decide) rfl rfl rfl rfl)|(refine zAW [1,2,3,4] [] rfl rfl zEP (hX0) rfl (SArgs_all rfl) rfl (by decide) rfl rfl rfl rfl)|(refine aVM zKI (hR) (SArgs_all rfl) rfl rfl ?_)|apply ay (hd:=rfl)|exact zAF rfl|exact zAB rfl|refine zBE rfl rfl ?_|exact zBX rfl|exact zAX rfl rfl|exact zAg rfl rfl|exact zAG rfl|exact zAC rfl zBS|exact zAE rfl zBn rfl rfl|refine w1 rfl rfl ?_|refine zAJ rfl ?_|apply zAS|refine zAj (by kernel_rfl) (by kernel_rfl) ?_
 all_goals first|omega|skip
 all_goals exact zEE rfl
theorem zQx(m:Img)(r r':Raw){k:Nat}{n:Int}{t:List UInt8}(hk:m.pool[k]?=some ⟨true,n,t⟩)(_hp:m.pool.length<=1048576)(hR:zAU prog 75 [.ptr 0 0,.d (str t),.d (i64 0)] (MX m r) .top (MX m r')):
  zAU prog 38 [.ptr 0 0,.d (i64 (k:Int))] (MX m r) .top (MX m r'):=by
 have hkl:=(qAA.1 hk).1
 have hkv:(m.pool)[((k:Int)).toNat]?=some ⟨true,n,t⟩:=by rw[qAj];exact hk
 refine zAx func38 rfl ntmps38 results38 rfl ?_
 intro wb St0 X fx
 repeat' first|apply en_n|apply zAH|apply zAA|apply zAD|apply w0|exact zAK rfl|(refine aVMt (m:=m) (r:=r) (fx:=fx) (tl:=[.bx none none [.d (bl true),.d (i64 n),.d (str t)]]) zKI hR (SArgs_all rfl) rfl rfl rfl rfl ?_)|(apply aJ (hd:=rfl);(first|exact zCW rfl|exact zC3 rfl rfl rfl|exact Co_nn rfl);exact rfl;(with_reducible exact zCd);assumption;omega;exact fun _=>rfl)|(apply zDI (hd:=rfl) (hro:=rfl);(with_reducible exact zI3))|apply ay (hd:=rfl)|exact zAF rfl|exact zBH rfl zDy rfl|exact zAG rfl|(apply zAC;exact rfl;(with_reducible first|exact zCM|exact zCZ|exact zCp|exact zA8))|(apply zAE;exact rfl;(with_reducible first|exact zAv|exact zDk|exact zAc);exact rfl;exact rfl)|(refine w0' ?_)|refine zAh rfl rfl rfl zDy rfl rfl rfl rfl ?_|refine zAI rfl ?_
 all_goals first|omega|skip
 all_goals exact zBK rfl rfl
theorem zQy(m:Img)(r:Raw){k:Nat}{n:Int}{t:List UInt8}(hk:m.pool[k]?=some ⟨false,n,t⟩)(_hp:m.pool.length<=1048576)(hl:r.stk.length<=1048576)(h:(r.stk.length:Int)+1>4000):
  zAU prog 38 [.ptr 0 0,.d (i64 (k:Int))] (MX m r) .top (MX m { r with fin:=6 }):=by
 have hkl:=(qAA.1 hk).1
 have hkv:(m.pool)[((k:Int)).toNat]?=some ⟨false,n,t⟩:=by rw[qAj];exact hk
 have hR:=zIp m r (k:=1) hl (by omega) h
 refine zAx func38 rfl ntmps38 results38 rfl ?_
 intro wb St0 X fx
 repeat' first|apply en_n|apply zAH|apply zAA|apply zAD|apply w0|exact zAK rfl|(refine aVMt (m:=m) (r:=r) (fx:=fx) (tl:=[.bx none none [.d (bl false),.d (i64 n),.d (str t)]]) zCg hR (SArgs_all rfl) rfl rfl rfl rfl ?_)|(apply aJ (hd:=rfl);(first|exact zCW rfl|exact zC3 rfl rfl rfl|exact Co_nn rfl);exact rfl;(with_reducible exact zCd);assumption;omega;exact fun _=>rfl)|(apply zDI (hd:=rfl) (hro:=rfl);(with_reducible exact zI3))|apply ay (hd:=rfl)|exact zAF rfl|exact zBH rfl zDy rfl|exact zBX rfl|exact zAG rfl|(apply zAC;exact rfl;(with_reducible first|exact zCM|exact zCZ|exact zA8))|(apply zAE;exact rfl;(with_reducible first|exact zAv|exact zAc);exact rfl;exact rfl)|(refine w0' ?_)|refine zAh rfl rfl rfl zDy rfl rfl rfl rfl ?_|refine zAJ rfl ?_|apply zAS
 all_goals first|omega|skip
 all_goals exact zBK rfl rfl
theorem zTd(m:Img)(r:Raw){k:Nat}{n:Int}{t:List UInt8}(hk:m.pool[k]?=some ⟨false,n,t⟩)(_hp:m.pool.length<=1048576)(hl:r.stk.length<=1048576)(h:¬(r.stk.length:Int)+1>4000):
  zAU prog 38 [.ptr 0 0,.d (i64 (k:Int))] (MX m r) .top (MX m { r with stk:=r.stk++[nW n] }):=by
 have hkl:=(qAA.1 hk).1
 have hkv:(m.pool)[((k:Int)).toNat]?=some ⟨false,n,t⟩:=by rw[qAj];exact hk
 have hR:=zRG (zIA m r (k:=1) hl (by omega) h)
 have hP:=zHD m r (w:=nW n) hl
 have hN:=zOq [] [] n
 refine zAx func38 rfl ntmps38 results38 rfl ?_
 intro wb St0 X fx
 repeat' first|apply en_n|apply zAH|apply zAA|apply zAD|apply w0|exact zAK rfl|(refine zAb zGA hN (zAY rfl zAM))|(refine aVMt (m:=m) (r:=r) (fx:=fx) (tl:=[.bx none none [.d (bl false),.d (i64 n),.d (str t)]]) zCg hR (SArgs_all rfl) rfl rfl rfl rfl ?_)|(refine aVMt (m:=m) (r:=r) (fx:=fx) (tl:=[.bx none none [.d (bl false),.d (i64 n),.d (str t)]]) zEF hP (SArgs_all rfl) rfl rfl rfl rfl ?_)|(apply aJ (hd:=rfl);(first|exact zCW rfl|exact zC3 rfl rfl rfl|exact Co_nn rfl);exact rfl;(with_reducible exact zCd);assumption;omega;exact fun _=>rfl)|(apply zDI (hd:=rfl) (hro:=rfl);(with_reducible exact zI3))|apply ay (hd:=rfl)|exact zAF rfl|exact zBH rfl zDy rfl|exact zBX rfl|exact zAG rfl|(apply zAC;exact rfl;(with_reducible first|exact zCM|exact zCZ|exact zDD|exact zA8))|(apply zAE;exact rfl;(with_reducible first|exact zAv|exact zD1|exact zAc);exact rfl;exact rfl)|(refine w0' ?_)|refine zAh rfl rfl rfl zDy rfl rfl rfl rfl ?_|refine zAI rfl ?_|refine zAJ rfl ?_
 all_goals first|omega|skip
 all_goals exact zBK rfl rfl
end Go.Proofs.YtcagoomibpcdlaaGreatDoor
