import Derived.Test.YtcagoomibpcdlaaGreatDoorMAV
import Derived.Test.YtcagoomibpcdlaaGreatDoorMBA
set_option maxHeartbeats 16000000
namespace Go.Proofs.YtcagoomibpcdlaaGreatDoor
open _root_.Go.Proofs.Tryz
open Go.Sx Go.Vm
def nxt(r:Raw): Raw:={ r with c:={ r.c with at_:=r.c.at_+1 } }
def inB(op a b:Int): Ob:=.bx none (some 46) [.d (i64 op),.d (i64 a),.d (i64 b)]
structure InsAt(m:Img)(r:Raw)(i:Ins): Prop where
 pos:0<=r.c.at_
 at_:m.code[r.c.at_.toNat]?=some i
 big:m.code.length<=1048576
theorem zb2{fx:Nat->Option Nat}{m:Img}{r:Raw}{η:List Ob}{o0 o1 o2 o3 o4 o5 o6 o7 o8 o9 o:Ob}{q:List Ob}(e:η=o0::o1::o2::o3::o4::o5::o6::o7::o8::o9::q)
  (h:MA fx m r=[o0,o1,o2,o3,o4,o5,o6,o7,o8]) (h9:o=o9):Pre (MA fx m r++[o]) η:=by
 subst e h9
 rw[h]
 exact zAK rfl rfl (zAK rfl rfl (zAK rfl rfl (zAK rfl rfl (zAK rfl rfl (zAK rfl rfl (zAK rfl rfl (zAK rfl rfl (zAK rfl rfl (zAK rfl rfl zAe)))))))))
theorem zcJ(l:List RTy)(t:RTy): l.map enTy++[enTy t]=(l++[t]).map enTy:=by rw[qAU];rfl
def tlC: Nat->Code->Code
 |0,c=>c
 |n+1,.seq _ c=>tlC n c
 |_+1,c=>c
abbrev StTo(m:Img)(r r':Raw)(op a b:Int): Prop:=∀(wb:World) (St0:Stab) (X:Nat->Prop) (fx:Nat->Option Nat),
 awp ⟨prog,288,wb,St0,X,0⟩ (tlC 2 (Tryz.f22.body.getD .skip)) (zBM #[] .top (MA fx m r')) [(0,.ptr 0 0),(2,.ptr 9 0)] (MA fx m (nxt r)++[inB op a b])
attribute [local irreducible] zAL Program.underlying Ylds zA2 alex zBZ zBP awp zAb zBh zBg zAW zBF zAp zBG zBR zAr zBV zBY zBe zBM zA8 zBE
theorem zcS{C:Ctx}{Q:Exit->Sl->List Ob->Prop}{σ:Sl}{η:List Ob}{id:Nat}{o:Array Oper}{dr:Bool}{c:Code}(h:Stop (awp C ((Code.region id o dr).seq c) Q σ η)): awp C ((Code.region id o dr).seq c) Q σ η:=by
 unfold Stop at h;exact h
theorem zCo(m:Img)(r r':Raw){op a b:Int}(hc:InsAt m r ⟨op,a,b⟩)(h:StTo m r r' op a b): zAW prog 22 [.ptr 0 0] (MX m r) .top (MX m r'):=by
 obtain⟨hpos,hat0,hbig⟩:=hc
 have hbd:=(qAA.1 hat0).1
 have hat:=zGL (f:=enIn) hat0
 refine zBr func22 rfl ntmps22 results22 rfl ?_
 intro wb St0 X fx
 have h:=h wb St0 X fx
 conv at h=>arg 2;whnf
 skip
 repeat' first|(refine zHF (id:=0) [.y (.ptr 0 0),.y (.ptr 0 0),.y (.ptr 0 (0+0)),.y (.ptr 0 (0+0+1)),.y (.d (.slice (m.code.map enIn))),.y (.ptr 0 0),.y (.ptr 0 0),.y (.ptr 0 (0+4)),.y (.ptr 0 (0+4+0)),.y (.d (i64 r.c.at_)),.y (.rptr [i64 op,i64 a,i64 b]),.y (.d (.agg (List.take 3 [i64 op,i64 a,i64 b]))),.mk ⟨2,_,46,_⟩ none] (by kernel_rfl) (by kernel_rfl) (.inr (by kernel_rfl)) ⟨⟨rfl,zAQ rfl⟩,rfl,⟨rfl,zAa rfl⟩,rfl,⟨rfl,zAF rfl zF6⟩,rfl,⟨rfl,zAF rfl zC4⟩,rfl,⟨rfl,zAG rfl zDz rfl rfl⟩,rfl,⟨rfl,zAQ rfl⟩,rfl,⟨rfl,zAa rfl⟩,rfl,⟨rfl,zAF rfl zCx⟩,rfl,⟨rfl,zAF rfl zFE⟩,rfl,⟨rfl,zAG rfl zAY rfl rfl⟩,rfl,⟨rfl,zVx rfl rfl zFg hpos hat rfl (by decide)⟩,rfl,⟨rfl,zBz rfl zFf rfl⟩,rfl,⟨rfl,rfl,rfl,zJo,by kernel_rfl,rfl⟩,rfl,trivial⟩ ?_)|(refine zcS (id:=2) ?_)|apply en_n|apply zAE|apply zAA|apply zAB|apply w0|(refine zCJ (by kernel_rfl) ?_;refine aStA ?_)|refine ayA rfl ?_|apply ay (hd:=rfl)|refine zBp rfl rfl ?_|(refine w0' ?_)|refine aStA ?_
 all_goals first|omega|skip
 refine Stop.go ?_
 refine zBW ?_ h
 exact zAU (Le_all rfl) (zb2 rfl rfl rfl) rfl rfl
