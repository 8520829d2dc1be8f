/- Parts of the proof. -/
import Derived.Test.YtcagoomibpcdlaaGreatDoorMAV
set_option maxHeartbeats 16000000
namespace Go.Proofs.YtcagoomibpcdlaaGreatDoor
open _root_.Go.Proofs.Tryz
open Go.Sx Go.Vm
attribute [local irreducible] zAO Program.underlying Ylds zBE alex zB0 zBk awp zAg zB9 zB8 zAU zBj zA6 zBl zBn zBC zBq zBz zB7 zBm zBc zBe
def tkT: List Int:=[2,2,2,2,2,2,2,2,1,1,1,2,1,1]
def tkV: List (Nat×Value):=[(0,.int .i64 2),(1,.int .i64 2),(2,.int .i64 2),(3,.int .i64 2),(4,.int .i64 2),(5,.int .i64 2),(6,.int .i64 2),(7,.int .i64 2),(8,.int .i64 1),(9,.int .i64 1),(10,.int .i64 1),(11,.int .i64 2),(12,.int .i64 1),(13,.int .i64 1)]
theorem zZv: prog.built 204 tkV=some (tkT.map (fun n=>Value.int .i64 n)).toArray:=by kernel_rfl
theorem zYf: zB5 prog 204=some (List.replicate 14 (.int .i64 0)):=by kernel_rfl
theorem zYu: zBL prog 204=some (true,14):=by kernel_rfl
theorem za9: zQP prog 204=some (14,1):=by kernel_rfl
theorem zYr{p:Int}(h:0<=p/\p<14): (tkT.map fun n=>SV.d (i64 n))[0+p.toNat*1]?=some (.d (i64 (takes p))):=by
 obtain⟨k,rfl⟩:=Int.eq_ofNat_of_zero_le h.1
 have hk:k<14:=by omega
 match k,hk with
 |0,_|1,_|2,_|3,_|4,_|5,_|6,_|7,_|8,_|9,_|10,_|11,_|12,_|13,_=>rfl
theorem zYq{p:Int}(h:p<0\/p>=14): takes p=0:=if_pos (by omega)
theorem zE7(p:Int): zAg prog 122 [i64 p] (i64 (takes p)):=by
 refine zAr func122 rfl ntmps122 results122 rfl ?_
 intro wb St0
 have hv:0<=p/\p<14->(tkT.map fun n=>SV.d (i64 n))[0+p.toNat*1]?=some (.d (i64 (takes p))):=zYr
 by_cases h:p<0\/p>=14
 ·rw[zYq h]
  rcases h with h|h
  all_goals
   skip
   repeat' first|apply en_n|apply zAG|apply zAA|apply zAD|apply w0|exact zCf rfl rfl|exact zCY rfl rfl|exact zHL rfl rfl|(refine zPL (vs:=tkV) (cells:=tkT.map (fun n=>Value.int .i64 n)) (by repeat (first|exact trivial|refine⟨⟨rfl,rfl⟩,?_⟩)) zZv rfl)|(apply zDv (hd:=rfl) (hro:=rfl);(with_reducible exact zYf))|refine zAj rfl rfl rfl zYu rfl rfl rfl rfl ?_|apply ay (hd:=rfl)|exact zAF rfl|exact zAB rfl|exact zAZ rfl rfl|exact zAV rfl rfl|refine w1 rfl rfl ?_|refine k0 (hd:=rfl) rfl rfl ?_|(refine w0' ?_)|refine zAI rfl ?_|apply zAQ|apply en_r|apply zAT|refine res1 rfl ?_
   all_goals first|omega|rfl
 ·have h1:¬p<0:=fun c=>h (.inl c)
  have h2:¬p>=14:=fun c=>h (.inr c)
  clear h
  repeat' first|apply en_n|apply zAG|apply zAA|apply zAD|apply w0|exact zCY rfl rfl|exact zGm rfl rfl|(refine zPL (vs:=tkV) (cells:=tkT.map (fun n=>Value.int .i64 n)) (by repeat (first|exact trivial|refine⟨⟨rfl,rfl⟩,?_⟩)) zZv rfl)|(apply zDv (hd:=rfl) (hro:=rfl);(with_reducible exact zYf))|refine zAj rfl rfl rfl zYu rfl rfl rfl rfl ?_|(refine zN2 rfl rfl za9 (by omega))|(refine zAE rfl zAP rfl (hv (by omega)))|apply ay (hd:=rfl)|exact zAF rfl|exact zAB rfl|exact zAV rfl rfl|refine w1 rfl rfl ?_|(refine w0' ?_)|refine zAJ rfl ?_|apply zAR|apply zAQ|apply zAT|refine res1 rfl ?_
  all_goals first|omega|rfl
theorem zQq(m:Img)(r:Raw){u1 u0:Nat}(ht:Tops r u1 u0)(hO:zAU prog 52 [.ptr 0 0,.d (w64 u1),.d (i64 4)] (MX m r) (.d (bl false)) (MX m { r with fin:=4 })):
  zAU prog 95 [.ptr 0 0] (MX m r) .top (MX m { r with fin:=4 }):=by
 obtain⟨h2,hf,hw,hl⟩:=ht
 have hT1:=zB4 m r (k:=1) (by omega) hf hl
 refine zA7 func95 rfl ntmps95 results95 rfl ?_
 intro wb St0 X fx
 repeat' first|apply en_n|apply zAG|apply zAA|apply zAD|apply w0|refine k0u (hd:=rfl) rfl rfl ?_|(refine zAX ids9 [] rfl rfl zAw (hT1) rfl (SArgs_all rfl) rfl (by decide) rfl rfl rfl rfl)|(refine aVM zCU (hO) (SArgs_all rfl) rfl rfl ?_)|apply ay (hd:=rfl)|exact zAF rfl|exact zBS rfl|exact zAZ rfl rfl|exact zAH rfl|refine zAI rfl ?_|apply zAQ|apply en_r
 all_goals exact zDW rfl
theorem zQr(m:Img)(r:Raw){u1 u0:Nat}{t n:Int}(ht:Tops r u1 u0)(hB:BlkQ r u1 4 t n true)(hO:zAU prog 52 [.ptr 0 0,.d (w64 u0),.d (i64 4)] (MX m r) (.d (bl false)) (MX m { r with fin:=4 })):
  zAU prog 95 [.ptr 0 0] (MX m r) .top (MX m { r with fin:=4 }):=by
 obtain⟨h2,hf,hw,hl⟩:=ht
 have hT1:=zB4 m r (k:=1) (by omega) hf hl
 have hT0:=zB4 m r (k:=0) (by omega) hw hl
 have hO1:=zFU m r hB
 refine zA7 func95 rfl ntmps95 results95 rfl ?_
 intro wb St0 X fx
 repeat' first|apply en_n|apply zAG|apply zAA|apply zAD|apply w0|(refine zAX ids9 [] rfl rfl zAw (hT1) rfl (SArgs_all rfl) rfl (by decide) rfl rfl rfl rfl)|(refine zAX ids9 [] rfl rfl zAw (hT0) rfl (SArgs_all rfl) rfl (by decide) rfl rfl rfl rfl)|(refine zAX ids9 [] rfl rfl zCU (hO1) rfl (SArgs_all rfl) rfl (by decide) rfl rfl rfl rfl)|(refine aVM zCU (hO) (SArgs_all rfl) rfl rfl ?_)|apply ay (hd:=rfl)|exact zAF rfl|exact zBS rfl|exact zAV rfl rfl|exact zAH rfl|refine w1 rfl rfl ?_|refine zAI rfl ?_|apply zAQ|apply en_r
 all_goals exact zDW rfl
abbrev TxtQ(r:Raw)(w:Nat)(s:List UInt8): Prop:=zA6 prog 55 [.ptr 0 0,.d (w64 w)] (HO r.size r.now r.oth r.beg) (.tup [str s,bl true])
theorem zPc(m:Img)(r r':Raw){u1 u0:Nat}{t n t' n':Int}{s1 s0:List UInt8}(ht:Tops r u1 u0)(hB:BlkQ r u1 4 t n true)(hB0:BlkQ r u0 4 t' n' true)(hX1:TxtQ r u1 s1)(hX0:TxtQ r u0 s0)(hl1:s1.length<=200)(hl0:s0.length<=200)(hg:(s1.length:Int)+s0.length>200)
  (hR:zAU prog 50 [.ptr 0 0,.d (i64 (-3))] (MX m r) .top (MX m r')) :
  zAU prog 95 [.ptr 0 0] (MX m r) .top (MX m r'):=by
 obtain⟨h2,hf,hw,hl⟩:=ht
 have hT1:=zB4 m r (k:=1) (by omega) hf hl
 have hT0:=zB4 m r (k:=0) (by omega) hw hl
 have hO1:=zFU m r hB
 have hO0:=zFU m r hB0
 refine zA7 func95 rfl ntmps95 results95 rfl ?_
 intro wb St0 X fx
 repeat' first|apply en_n|apply zAG|apply zAA|apply zAD|apply w0|exact zEr rfl rfl|(apply zEY;exact rfl;with_reducible exact ustr)|exact zAL rfl|(refine zAX ids9 [] rfl rfl zAw (hT1) rfl (SArgs_all rfl) rfl (by decide) rfl rfl rfl rfl)|(refine zAX ids9 [] rfl rfl zAw (hT0) rfl (SArgs_all rfl) rfl (by decide) rfl rfl rfl rfl)|(refine zAX ids9 [] rfl rfl zCU (hO1) rfl (SArgs_all rfl) rfl (by decide) rfl rfl rfl rfl)|(refine zAX ids9 [] rfl rfl zCU (hO0) rfl (SArgs_all rfl) rfl (by decide) rfl rfl rfl rfl)|(refine zAX [1,2,3,4] [] rfl rfl zEW (hX1) rfl (SArgs_all rfl) rfl (by decide) rfl rfl rfl rfl)|(refine zAX [1,2,3,4] [] rfl rfl zEW (hX0) rfl (SArgs_all rfl) rfl (by decide) rfl rfl rfl rfl)|(refine aVM zHW (hR) (SArgs_all rfl) rfl rfl ?_)|apply ay (hd:=rfl)|exact zAF rfl|exact zAB rfl|refine zBG rfl rfl ?_|exact zBS rfl|exact zAV rfl rfl|exact zAk rfl rfl|exact zAH rfl|exact zAC rfl zBb|exact zAE rfl zBw rfl rfl|refine w1 rfl rfl ?_|refine zAI rfl ?_|refine zAJ rfl ?_|apply zAR|apply zAQ|refine zAf (by kernel_rfl) (by kernel_rfl) ?_|apply en_r
 all_goals first|omega|skip
 all_goals exact zDW rfl
theorem zTl(m:Img)(r r':Raw){u1 u0:Nat}{t n t' n':Int}{s1 s0:List UInt8}(ht:Tops r u1 u0)(hB:BlkQ r u1 4 t n true)(hB0:BlkQ r u0 4 t' n' true)(hX1:TxtQ r u1 s1)(hX0:TxtQ r u0 s0)(hl1:s1.length<=200)(hl0:s0.length<=200)(hg:¬(s1.length:Int)+s0.length>200)
  (hR:zAU prog 75 [.ptr 0 0,.d (str (s1++s0)),.d (i64 2)] (MX m r) .top (MX m r')) :
  zAU prog 95 [.ptr 0 0] (MX m r) .top (MX m r'):=by
 obtain⟨h2,hf,hw,hl⟩:=ht
 have hT1:=zB4 m r (k:=1) (by omega) hf hl
 have hT0:=zB4 m r (k:=0) (by omega) hw hl
 have hO1:=zFU m r hB
 have hO0:=zFU m r hB0
 refine zA7 func95 rfl ntmps95 results95 rfl ?_
 intro wb St0 X fx
 repeat' first|apply en_n|apply zAG|apply zAA|apply zAD|apply w0|exact zDx rfl rfl|(apply zEY;exact rfl;with_reducible exact ustr)|(apply zYO;exact rfl;exact rfl;omega)|exact zAL rfl|(refine zAX ids9 [] rfl rfl zAw (hT1) rfl (SArgs_all rfl) rfl (by decide) rfl rfl rfl rfl)|(refine zAX ids9 [] rfl rfl zAw (hT0) rfl (SArgs_all rfl) rfl (by decide) rfl rfl rfl rfl)|(refine zAX ids9 [] rfl rfl zCU (hO1) rfl (SArgs_all rfl) rfl (by decide) rfl rfl rfl rfl)|(refine zAX ids9 [] rfl rfl zCU (hO0) rfl (SArgs_all rfl) rfl (by decide) rfl rfl rfl rfl)|(refine zAX [1,2,3,4] [] rfl rfl zEW (hX1) rfl (SArgs_all rfl) rfl (by decide) rfl rfl rfl rfl)|(refine zAX [1,2,3,4] [] rfl rfl zEW (hX0) rfl (SArgs_all rfl) rfl (by decide) rfl rfl rfl rfl)|(refine aVM zKl (hR) (SArgs_all rfl) rfl rfl ?_)|apply ay (hd:=rfl)|exact zAF rfl|exact zAB rfl|refine zBG rfl rfl ?_|exact zBS rfl|exact zAV rfl rfl|exact zAk rfl rfl|exact zAH rfl|exact zAC rfl zBb|exact zAE rfl zBw rfl rfl|refine w1 rfl rfl ?_|refine zAJ rfl ?_|apply zAR|refine zAf (by kernel_rfl) (by kernel_rfl) ?_
 all_goals first|omega|skip
 all_goals exact zEG rfl
theorem zRg(m:Img)(r r':Raw){k:Nat}{n:Int}{t:List UInt8}(hk:m.pool[k]?=some ⟨true,n,t⟩)(_hp:m.pool.length<=1048576)(hR:zAU prog 75 [.ptr 0 0,.d (str t),.d (i64 0)] (MX m r) .top (MX m r')):
  zAU prog 38 [.ptr 0 0,.d (i64 (k:Int))] (MX m r) .top (MX m r'):=by
 have hkl:=(qAA.1 hk).1
 have hkv:(m.pool)[((k:Int)).toNat]?=some ⟨true,n,t⟩:=by rw[qAj];exact hk
 refine zA7 func38 rfl ntmps38 results38 rfl ?_
 intro wb St0 X fx
 repeat' first|apply en_n|apply zAG|apply zAA|apply zAD|apply w0|exact zAL rfl|(refine aVMt (m:=m) (r:=r) (fx:=fx) (tl:=[.bx none none [.d (bl true),.d (i64 n),.d (str t)]]) zKl hR (SArgs_all rfl) rfl rfl rfl rfl ?_)|(apply aJ (hd:=rfl);(first|exact zCQ rfl|exact zCp rfl rfl rfl|exact Co_nn rfl);exact rfl;(with_reducible exact zDF);assumption;omega;exact fun _=>rfl)|(apply zDv (hd:=rfl) (hro:=rfl);(with_reducible exact zJP))|apply ay (hd:=rfl)|exact zAF rfl|exact zBK rfl zD3 rfl|exact zAH rfl|(apply zAC;exact rfl;(with_reducible first|exact zB2|exact zCc|exact zC4|exact zBI))|(apply zAE;exact rfl;(with_reducible first|exact zAx|exact zEO|exact zAb);exact rfl;exact rfl)|(refine w0' ?_)|refine zAj rfl rfl rfl zD3 rfl rfl rfl rfl ?_|refine zAI rfl ?_
 all_goals first|omega|skip
 all_goals exact zBO rfl rfl
theorem zRh(m:Img)(r:Raw){k:Nat}{n:Int}{t:List UInt8}(hk:m.pool[k]?=some ⟨false,n,t⟩)(_hp:m.pool.length<=1048576)(hl:r.stk.length<=1048576)(h:(r.stk.length:Int)+1>4000):
  zAU prog 38 [.ptr 0 0,.d (i64 (k:Int))] (MX m r) .top (MX m { r with fin:=6 }):=by
 have hkl:=(qAA.1 hk).1
 have hkv:(m.pool)[((k:Int)).toNat]?=some ⟨false,n,t⟩:=by rw[qAj];exact hk
 have hR:=zI4 m r (k:=1) hl (by omega) h
 refine zA7 func38 rfl ntmps38 results38 rfl ?_
 intro wb St0 X fx
 repeat' first|apply en_n|apply zAG|apply zAA|apply zAD|apply w0|exact zAL rfl|(refine aVMt (m:=m) (r:=r) (fx:=fx) (tl:=[.bx none none [.d (bl false),.d (i64 n),.d (str t)]]) zCg hR (SArgs_all rfl) rfl rfl rfl rfl ?_)|(apply aJ (hd:=rfl);(first|exact zCQ rfl|exact zCp rfl rfl rfl|exact Co_nn rfl);exact rfl;(with_reducible exact zDF);assumption;omega;exact fun _=>rfl)|(apply zDv (hd:=rfl) (hro:=rfl);(with_reducible exact zJP))|apply ay (hd:=rfl)|exact zAF rfl|exact zBK rfl zD3 rfl|exact zBS rfl|exact zAH rfl|(apply zAC;exact rfl;(with_reducible first|exact zB2|exact zCc|exact zBI))|(apply zAE;exact rfl;(with_reducible first|exact zAx|exact zAb);exact rfl;exact rfl)|(refine w0' ?_)|refine zAj rfl rfl rfl zD3 rfl rfl rfl rfl ?_|refine zAJ rfl ?_|apply zAR
 all_goals first|omega|skip
 all_goals exact zBO rfl rfl
theorem zUN(m:Img)(r:Raw){k:Nat}{n:Int}{t:List UInt8}(hk:m.pool[k]?=some ⟨false,n,t⟩)(_hp:m.pool.length<=1048576)(hl:r.stk.length<=1048576)(h:¬(r.stk.length:Int)+1>4000):
  zAU prog 38 [.ptr 0 0,.d (i64 (k:Int))] (MX m r) .top (MX m { r with stk:=r.stk++[nW n] }):=by
 have hkl:=(qAA.1 hk).1
 have hkv:(m.pool)[((k:Int)).toNat]?=some ⟨false,n,t⟩:=by rw[qAj];exact hk
 have hR:=zR2 (zIS m r (k:=1) hl (by omega) h)
 have hP:=zHQ m r (w:=nW n) hl
 have hN:=zPO [] [] n
 refine zA7 func38 rfl ntmps38 results38 rfl ?_
 intro wb St0 X fx
 repeat' first|apply en_n|apply zAG|apply zAA|apply zAD|apply w0|exact zAL rfl|(refine zAd zGF hN (CoLA rfl))|(refine aVMt (m:=m) (r:=r) (fx:=fx) (tl:=[.bx none none [.d (bl false),.d (i64 n),.d (str t)]]) zCg hR (SArgs_all rfl) rfl rfl rfl rfl ?_)|(refine aVMt (m:=m) (r:=r) (fx:=fx) (tl:=[.bx none none [.d (bl false),.d (i64 n),.d (str t)]]) zEH hP (SArgs_all rfl) rfl rfl rfl rfl ?_)|(apply aJ (hd:=rfl);(first|exact zCQ rfl|exact zCp rfl rfl rfl|exact Co_nn rfl);exact rfl;(with_reducible exact zDF);assumption;omega;exact fun _=>rfl)|(apply zDv (hd:=rfl) (hro:=rfl);(with_reducible exact zJP))|apply ay (hd:=rfl)|exact zAF rfl|exact zBK rfl zD3 rfl|exact zBS rfl|exact zAH rfl|(apply zAC;exact rfl;(with_reducible first|exact zB2|exact zCc|exact zDn|exact zBI))|(apply zAE;exact rfl;(with_reducible first|exact zAx|exact zEP|exact zAb);exact rfl;exact rfl)|(refine w0' ?_)|refine zAj rfl rfl rfl zD3 rfl rfl rfl rfl ?_|refine zAI rfl ?_|refine zAJ rfl ?_
 all_goals first|omega|skip
 all_goals exact zBO rfl rfl
end Go.Proofs.YtcagoomibpcdlaaGreatDoor
