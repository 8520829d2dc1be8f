/- Parts of the proof. -/
import Derived.Test.YtcagoomibpcdlaaGreatDoorMBT
set_option maxHeartbeats 16000000
namespace Go.Proofs.YtcagoomibpcdlaaGreatDoor
open _root_.Go.Proofs.Tryz
open Go.Sx Go.Vm
theorem zF4: zA2 prog 69=some 5:=by kernel_rfl
theorem zK3: (zBd prog 69).isSome=true:=by kernel_rfl
theorem zOB: zBd prog 69=some 123:=by kernel_rfl
theorem zQh: zCZ prog 69=some 56:=by kernel_rfl
theorem zFn: zAy prog 123 0=some 0:=by kernel_rfl
theorem zGP: zAy prog 123 1=some 1:=by kernel_rfl
theorem zGO: zAy prog 123 2=some 2:=by kernel_rfl
theorem zDG: zAy prog 123 3=some 3:=by kernel_rfl
theorem zEB: zAy prog 123 4=some 4:=by kernel_rfl
theorem zEk: zBL prog 123=some (true,5):=by kernel_rfl
theorem zIF: zB5 prog 123=some [.bool false,.int .i64 0,.int .i64 0,.int .i64 0,.slice none 0 0]:=by kernel_rfl
theorem zJM: zCr prog 123=some [(0,1),(1,1),(2,1),(3,1),(4,1)]:=by kernel_rfl
theorem zEl: zA2 prog 124=some 6:=by kernel_rfl
theorem zK2: (zBd prog 124).isSome=true:=by kernel_rfl
theorem zEu: zBd prog 124=some 128:=by kernel_rfl
theorem zK4: zCZ prog 124=some 64:=by kernel_rfl
theorem zJO: zAy prog 128 0=some 0:=by kernel_rfl
theorem zJN: zAy prog 128 1=some 1:=by kernel_rfl
theorem zK1: zC3 prog 128=some 6:=by kernel_rfl
theorem zJJ: (zB5 prog 128).isSome=true:=by kernel_rfl
theorem zJK: zB5 prog 128=some [.int .i64 0,.bool false,.int .i64 0,.int .i64 0,.int .i64 0,.slice none 0 0]:=by kernel_rfl
theorem zJL: zCr prog 128=some [(0,1),(1,5)]:=by kernel_rfl
theorem zMc: zAO prog 138=true:=by kernel_rfl
def rsD(k:Bool)(v:VS): D:=.agg [bl k,i64 v.of,i64 v.has,i64 v.height,zBW v.tries]
attribute [local irreducible] zAO Program.underlying Ylds zBE alex zB0 zBk awp zAg zB9 zB8 zAU zBj zA6 zDJ zBl zBn zBC zBq zBz zB7 zDQ zBm zBc zBe
theorem zRP(p:Int): zAg prog 101 [i64 p] (i64 (takes p)):=by
 refine zAr func101 rfl ntmps101 results101 rfl ?_
 intro wb St0
 unfold takes
 repeat' first|apply en_n|apply zAG|apply zAA|apply zAD|apply w0|refine k0u (hd:=rfl) rfl rfl ?_|apply ay (hd:=rfl)|exact zAF rfl|exact zAB rfl|exact zEM rfl rfl|exact zGM rfl rfl|exact zE6 rfl rfl|exact zAZ rfl rfl|exact zAV rfl rfl|refine w1 rfl rfl ?_|(apply gD;exact rfl;exact rfl;all_goals intro hb)|(apply zBa;exact rfl;all_goals intro hb)|refine zAI rfl ?_|apply zAR|apply zAQ|apply en_r|apply zAT|refine res1 rfl ?_
 all_goals (refine congrArg D.val (congrArg (Value.int .i64) ?_))
 all_goals first
  |(rw[if_pos (by omega)])
  |(rw[if_neg (by omega),if_pos (by omega)])
  |(rw[if_neg (by omega),if_neg (by omega)])
theorem zW9(s:List UInt8)(hs:s.length<=1000000): zAg prog 138 [str s] (bl (conF s)):=by
 refine zAr func138 rfl ntmps138 results138 rfl ?_
 intro wb St0
 repeat' first|apply en_n|apply zAG|apply zAA|apply zAD|apply w0|exact zBr zRi zVZ (PD_d rfl rfl (PD_d rfl rfl zCi)) rfl|(refine zAd zQC (zRQ ⟨2,s,0,0⟩ hs) (CoLA rfl))|apply ay (hd:=rfl)|exact zAF rfl|exact zAB rfl|apply zAQ|apply zAT|refine res1 rfl ?_
 rfl
theorem zT3(k k':Bool)(a b:VS)(hL:a.tries.length<=2000000): zAg prog 57 [rsD k a,rsD k' b] (bl (decide (a=b))):=by
 obtain⟨o,h,e,t⟩:=a
 obtain⟨o',h',e',t'⟩:=b
 have hR:=zaF t t' hL
 refine zAr func57 rfl ntmps57 results57 rfl ?_
 intro wb St0
 unfold rsD
 dsimp only
 repeat' first|apply en_n|apply zAG|apply zAA|apply zAD|apply w0|refine k1u (hd:=rfl) rfl rfl ?_|(refine zAd zZi hR (CoLA rfl))|refine aBox (hd:=rfl) (hro:=rfl) rfl rfl ?_|apply ay (hd:=rfl)|exact zAF rfl|exact zAB rfl|exact zE6 rfl rfl|exact zAZ rfl rfl|exact zAV rfl rfl|(apply zAC;exact rfl;(with_reducible first|exact zGP|exact zGO|exact zDG|exact zEB))|(apply zAE;exact rfl;(with_reducible first|exact zAP|exact zAt);exact rfl;exact rfl)|refine w1 rfl rfl ?_|(apply gD;exact rfl;exact rfl;all_goals intro hb)|apply zAQ|apply zAT|refine res1 rfl ?_
 all_goals first|(refine congrArg bl ?_;simp_all;done)|(apply zDR;simp_all;done)
theorem zMD(m:Img)(him:ImgOk m)(k:Int)(h0:0<=k): zAg prog 100 [zCm m,i64 k] (bl (zFk conF m k)):=by
 refine zAr func100 rfl ntmps100 results100 rfl ?_
 intro wb St0
 by_cases hk:k<m.pool.length
 ·obtain⟨v,hv⟩:∃v,m.pool[k.toNat]?=some v:=⟨_,qAB (by omega)⟩
  have hth:=him.thing v (qAH hv)
  obtain⟨vt,vn,vs⟩:=v
  have e:zFk conF m k=(vt&&conF vs):=by unfold zFk;rw[hv]
  rw[e]
  unfold zCm
  cases vt
  ·skip
   repeat' first|apply en_n|apply zAG|apply zAA|apply zAD|apply w0|refine k1u (hd:=rfl) rfl rfl ?_|exact zCf rfl rfl|(apply aJ (hd:=rfl);(first|exact zCQ rfl|exact zCp rfl rfl rfl|exact Co_nn rfl);exact rfl;(with_reducible exact zDF);assumption;omega;exact fun _=>rfl)|refine aBox (hd:=rfl) (hro:=rfl) rfl rfl ?_|apply ay (hd:=rfl)|exact zAF rfl|exact zAB rfl|exact zDB rfl zCc|exact zCK rfl zAb|exact zBD rfl zD4|exact zAZ rfl rfl|exact zAV rfl rfl|exact zAC rfl zB2|exact zAE rfl zAx rfl rfl|refine w1 rfl rfl ?_|apply zAQ|apply zAT|refine res1 rfl ?_
   all_goals rfl
  ·have hC:=zW9 vs (by have:=hth.1 rfl;dsimp only at this;omega)
   skip
   repeat' first|apply en_n|apply zAG|apply zAA|apply zAD|apply w0|exact zCf rfl rfl|(refine zAd zMc hC (CoLA rfl))|(apply aJ (hd:=rfl);(first|exact zCQ rfl|exact zCp rfl rfl rfl|exact Co_nn rfl);exact rfl;(with_reducible exact zDF);assumption;omega;exact fun _=>rfl)|refine aBox (hd:=rfl) (hro:=rfl) rfl rfl ?_|apply ay (hd:=rfl)|exact zAF rfl|exact zAB rfl|(apply zDB;exact rfl;(with_reducible first|exact zCc|exact zC4))|(apply zCK;exact rfl;(with_reducible first|exact zEO|exact zAb))|exact zBD rfl zD4|exact zAZ rfl rfl|exact zAC rfl zB2|exact zAE rfl zAx rfl rfl|refine w1 rfl rfl ?_|apply zAQ|apply zAT|refine res1 rfl ?_
   all_goals rfl
 ·have e:zFk conF m k=false:=by unfold zFk;rw[qA3 (by omega)]
  rw[e]
  unfold zCm
  skip
  repeat' first|apply en_n|apply zAG|apply zAA|apply zAD|apply w0|refine k1u (hd:=rfl) rfl rfl ?_|exact zCY rfl rfl|refine aBox (hd:=rfl) (hro:=rfl) rfl rfl ?_|apply ay (hd:=rfl)|exact zAF rfl|exact zAB rfl|exact zBD rfl zD4|exact zAV rfl rfl|exact zAC rfl zB2|exact zAE rfl zAx rfl rfl|apply zAQ|apply zAT|refine res1 rfl ?_
  all_goals rfl
end Go.Proofs.YtcagoomibpcdlaaGreatDoor
namespace Go.Proofs.YtcagoomibpcdlaaGreatDoor
open _root_.Go.Proofs.Tryz
open Go.Sx Go.Vm
theorem zHk{C:Ctx}{Q:Exit->Sl->List Ob->Prop}{σ:Sl}{η:List Ob}{id:Nat}{o:Array Oper}{dr:Bool}{c d:Code}(h:Stop (awp C (((Code.region id o dr).seq c).seq d) Q σ η)): awp C (((Code.region id o dr).seq c).seq d) Q σ η:=by
 unfold Stop at h;exact h
abbrev nxB(m:Img)(kn:Bool)(s:VS)(op a b:Int): List Ob:=[.box [.d (.slice (m.pool.map enCn)),.d (.slice (m.code.map enIn))],.box [.d (bl kn),.d (i64 s.of),.d (i64 s.has),.d (i64 s.height),.d (zBW s.tries)],.box [.d (i64 op),.d (i64 a),.d (i64 b)]]
abbrev nxS(k:Int)(s:VS)(e:Eff): Sl:=[(1,.d (i64 k)),(3,.ptr 0 0),(5,.ptr 1 0),(8,.ptr 2 0),(9,.d (i64 (zA4 s))),(12,.d (i64 e.takes)),(13,.d (i64 e.puts)),(14,.d (bl e.holds)),(15,.d (bl e.behind)),(16,.d (bl e.there))]
abbrev nxS0(k:Int)(s:VS): Sl:=[(1,.d (i64 k)),(3,.ptr 0 0),(5,.ptr 1 0),(8,.ptr 2 0),(9,.d (i64 (zA4 s))),(10,.d (bl (decide (s.of>=0)))),(11,.d (bl s.tries.isEmpty)),(12,.d (i64 0)),(13,.d (i64 0)),(14,.d (bl true)),(15,.d (bl true)),(16,.d (bl false))]
structure NxAt(m:Img)(k:Int)(i:Ins)(s:VS): Prop where
 pos:0<=k
 at_:m.code[k.toNat]?=some i
 code:m.code.length<=20000
 img:ImgOk m
 ht:-1000000000<=s.height/\s.height<=1000000000
 tr:s.tries.length<=2000000
attribute [local irreducible] zAO Program.underlying Ylds zBE alex zB0 zBk awp zAg zB9 zB8 zAU zBj zA6 zDJ zBl zBn zBC zBq zBz zB7 zDQ zBm zBc zBe JFit
theorem zXK(m:Img)(kn:Bool){k op a b:Int}{s:VS}(hd:NxAt m k ⟨op,a,b⟩ s)(wb:World)(St0:Stab)(Q:Exit->Sl->List Ob->Prop)
  (h:awp ⟨prog,284,wb,St0,fun _=>False,0⟩ (zFs 6 (zDt Tryz.f56)) Q (nxS0 k s) (nxB m kn s op a b)) :
  awp ⟨prog,284,wb,St0,fun _=>False,0⟩ (zDt Tryz.f56) Q (zQQ [zCm m,i64 k,rsD kn s] 0) []:=by
 obtain⟨hk0,hat0,hbig,him,hh,htr⟩:=hd
 have hat:=zB6 (f:=enIn) hat0
 have hk1:k<(m.code.length:Int):=by have:=(qAA.1 hat0).1;omega
 obtain⟨of,has,he,tr⟩:=s
 unfold zCm rsD at *
 dsimp only at *
 conv at h=>arg 2;whnf
 conv=>arg 2;whnf
 skip
 repeat' first|(refine zEd (id:=5) ?_)|(refine zPD (x:=.tmp 27) rfl [(1,.d (i64 k)),(3,.ptr 0 0),(5,.ptr 1 0),(8,.ptr 2 0),(9,.d (i64 (zA4 ⟨of,has,he,tr⟩)))] (nxB m kn ⟨of,has,he,tr⟩ op a b) (fun hp=>?_) (fun hp=>?_) ?_)|apply en_n|apply zAG|apply zAA|apply zAD|apply w0|refine zAj rfl rfl rfl zA8 rfl rfl rfl rfl ?_|(apply aJ (hd:=rfl);(first|exact zCQ rfl|exact zCp rfl rfl rfl|exact Co_nn rfl);exact rfl;(with_reducible first|exact zB3|exact zA5);assumption;omega;exact fun _=>rfl)|(apply aI (hd:=rfl);(first|exact zCQ rfl|exact zCp rfl rfl rfl|exact Co_nn rfl);exact rfl;(with_reducible exact zA5);exact fun _=>rfl;rotate_left;intro v hv;rotate_right)|refine aBox (hd:=rfl) (hro:=rfl) rfl rfl ?_|(apply zDv (hd:=rfl) (hro:=rfl);(with_reducible exact zCM))|apply ay (hd:=rfl)|exact zAF rfl|exact zAB rfl|exact zCK rfl zAP|exact zBK rfl zA8 rfl|exact zBD rfl zCP|exact zGM rfl rfl|refine zC2 rfl rfl ?_|exact zBN rfl|(apply zAC;exact rfl;(with_reducible first|exact zEB|exact zA9))|(apply zAE;exact rfl;(with_reducible first|exact zBg|exact zAt);exact rfl;exact rfl)|(refine w0' ?_)|apply zAR
 ·omega
 ·omega
 ·refine jfit (zAS (Le_cons rfl (Le_cons rfl (Le_cons rfl (Le_cons rfl (Le_cons ?_ Le_nil))))) (zAN rfl rfl (zAN rfl rfl (zHC rfl zIY zAs))) rfl rfl)
  have e:((tr.length:Int)-1).toNat=tr.length-1:=by omega
  rw[e,<-qBS]at hv
  have e2:zA4 ⟨of,has,he,tr⟩=v:=by unfold zA4;rw[hv];rfl
  rw[e2];rfl
 ·refine jfit (zAS (Le_cons rfl (Le_cons rfl (Le_cons rfl (Le_cons rfl (Le_cons ?_ Le_nil))))) (zAN rfl rfl (zAN rfl rfl (zHC rfl zIY zAs))) rfl rfl)
  have e:tr=[]:=List.length_eq_zero_iff.1 (by omega)
  have e2:zA4 ⟨of,has,he,tr⟩=0:=by unfold zA4;rw[e];rfl
  rw[e2];rfl
 refine Stop.go ?_
 repeat' first|(refine zHk (id:=7) ?_)|apply en_n|apply zAG|apply zAA|apply zAD|apply w0|apply ay (hd:=rfl)|exact zAB rfl|exact zBD rfl zCP|exact zH9 rfl rfl|exact zE6 rfl rfl|(apply zAC;exact rfl;(with_reducible first|exact zGP|exact zEB))|(apply zAE;exact rfl;(with_reducible first|exact zAP|exact zAt);exact rfl;exact rfl)|refine zAf (by kernel_rfl) (by kernel_rfl) ?_
 refine Stop.go ?_
 refine zCI (zAS (Le_cons rfl (Le_cons rfl (Le_cons rfl (Le_cons rfl (Le_cons rfl (Le_cons rfl (Le_cons ?_ (Le_all rfl)))))))) (zBF _) rfl rfl) h
 have e11:decide ((tr.length:Int)=0)=tr.isEmpty:=by cases tr <;> simp;omega
 rw[<-e11];rfl
end Go.Proofs.YtcagoomibpcdlaaGreatDoor
