import Derived.Test.YtcagoomibpcdlaaGreatDoorMCE
import Derived.Test.YtcagoomibpcdlaaGreatDoorMAY
set_option maxHeartbeats 16000000
namespace Go.Proofs.YtcagoomibpcdlaaGreatDoor
open Go.Sx Go.Vm
open _root_.Go.Proofs.Tryz
section
theorem zHK: zA3 prog 69=some 5:=by kernel_rfl
theorem zMp: (zBb prog 69).isSome=true:=by kernel_rfl
theorem zQU: zBb prog 69=some 123:=by kernel_rfl
theorem zTJ: zCX prog 69=some 56:=by kernel_rfl
theorem zG3: zAk prog 123 0=some 0:=by kernel_rfl
theorem zHr: zAk prog 123 1=some 1:=by kernel_rfl
theorem zHq: zAk prog 123 2=some 2:=by kernel_rfl
theorem zDo: zAk prog 123 3=some 3:=by kernel_rfl
theorem zEx: zAk prog 123 4=some 4:=by kernel_rfl
theorem zFd: zBD prog 123=some (true,5):=by kernel_rfl
theorem zJn: zBq prog 123=some [.bool false,.int .i64 0,.int .i64 0,.int .i64 0,.slice none 0 0]:=by kernel_rfl
theorem zKz: zCj prog 123=some [(0,1),(1,1),(2,1),(3,1),(4,1)]:=by kernel_rfl
theorem zFe: zA3 prog 124=some 6:=by kernel_rfl
theorem zMo: (zBb prog 124).isSome=true:=by kernel_rfl
theorem zFs: zBb prog 124=some 128:=by kernel_rfl
theorem zMq: zCX prog 124=some 64:=by kernel_rfl
theorem zK1: zAk prog 128 0=some 0:=by kernel_rfl
theorem zK0: zAk prog 128 1=some 1:=by kernel_rfl
theorem zMn: zC6 prog 128=some 6:=by kernel_rfl
theorem zKw: (zBq prog 128).isSome=true:=by kernel_rfl
theorem zKx: zBq prog 128=some [.int .i64 0,.bool false,.int .i64 0,.int .i64 0,.int .i64 0,.slice none 0 0]:=by kernel_rfl
theorem zKy: zCj prog 128=some [(0,1),(1,5)]:=by kernel_rfl
theorem zOm: zAL prog 138=true:=by kernel_rfl
def rsD(k:Bool)(v:VS): D:=.agg [bl k,i64 v.of,i64 v.has,i64 v.height,zBU v.tries]
attribute [local irreducible] zAL Program.underlying Ylds zA2 alex zBZ zBP awp zAb zBh zBg zAW zBF zAp zCO zBG zBR zAr zBV zBY zBe zCQ zBM zA8 zBE
theorem zOF(p:Int): zAb prog 101 [i64 p] (i64 (takes p)):=by
 refine zAj func101 rfl ntmps101 results101 rfl ?_
 intro wb St0
 unfold takes
 repeat' first|apply en_n|apply zAE|apply zAA|apply zAB|apply w0|refine k0u (hd:=rfl) rfl rfl ?_|refine ayA rfl ?_|apply ay (hd:=rfl)|exact zES rfl rfl|exact zHI rfl rfl|exact zFC rfl rfl|refine w1 rfl rfl ?_|(apply gD;exact rfl;exact rfl;all_goals intro hb)|(apply zBO;exact rfl;all_goals intro hb)|refine zAJ rfl ?_|apply zAP|apply zAM|apply en_r|apply zAS|refine res1 rfl ?_
 all_goals (refine congrArg D.val (congrArg (Value.int .i64) ?_))
 all_goals first
  |(rw[if_pos (by omega)])
  |(rw[if_neg (by omega),if_pos (by omega)])
  |(rw[if_neg (by omega),if_neg (by omega)])
theorem zaY(s:List UInt8)(hs:s.length<=1000000): zAb prog 138 [str s] (bl (conF s)):=by
 refine zAj func138 rfl ntmps138 results138 rfl ?_
 intro wb St0
 repeat' first|apply en_n|apply zAE|apply zAA|apply zAB|apply w0|exact zBI zUP zYk (PD_d rfl rfl (PD_d rfl rfl zCI)) rfl|exact ycA zSj (zT6 ⟨2,s,0,0⟩ hs)|refine ayA rfl ?_|apply ay (hd:=rfl)|apply zAM|apply zAS|refine res1 rfl ?_
 rfl
theorem zW5(k k':Bool)(a b:VS)(hL:a.tries.length<=2000000): zAb prog 57 [rsD k a,rsD k' b] (bl (decide (a=b))):=by
 obtain⟨o,h,e,t⟩:=a
 obtain⟨o',h',e',t'⟩:=b
 have hR:=zd3 t t' hL
 refine zAj func57 rfl ntmps57 results57 rfl ?_
 intro wb St0
 unfold rsD
 dsimp only
 repeat' first|apply en_n|apply zAE|apply zAA|apply zAB|apply w0|refine k1u (hd:=rfl) rfl rfl ?_|exact ycA zdT hR|refine aBoA ?_|refine ayA rfl ?_|apply ay (hd:=rfl)|exact zFC rfl rfl|refine w1 rfl rfl ?_|(apply gD;exact rfl;exact rfl;all_goals intro hb)|apply zAM|apply zAS|refine res1 rfl ?_
 all_goals first|(refine congrArg bl ?_;simp_all;done)|(apply zDn;simp_all;done)
theorem zOI(m:Img)(him:ImgOk m)(k:Int)(h0:0<=k): zAb prog 100 [zCs m,i64 k] (bl (zGS conF m k)):=by
 refine zAj func100 rfl ntmps100 results100 rfl ?_
 intro wb St0
 by_cases hk:k<m.pool.length
 ·obtain⟨v,hv⟩:∃v,m.pool[k.toNat]?=some v:=⟨_,qAB (by omega)⟩
  have hth:=him.thing v (qAF hv)
  obtain⟨vt,vn,vs⟩:=v
  have e:zGS conF m k=(vt&&conF vs):=by unfold zGS;rw[hv]
  rw[e]
  unfold zCs
  cases vt
  ·skip
   exact yC
  ·have hC:=zaY vs (by have:=hth.1 rfl;dsimp only at this;omega)
   skip
   exact yK
 ·have e:zGS conF m k=false:=by unfold zGS;rw[qAv (by omega)]
  rw[e]
  unfold zCs
  skip
  exact yC
end
section
theorem zG2: zAk prog 84 0=some 0:=by kernel_rfl
theorem zCr: zAk prog 84 1=some 2:=by kernel_rfl
theorem zCV: zAk prog 84 2=some 5:=by kernel_rfl
theorem zCZ: zAk prog 84 3=some 6:=by kernel_rfl
theorem zEW: zAk prog 84 4=some 10:=by kernel_rfl
theorem zFU: zAk prog 84 5=some 11:=by kernel_rfl
theorem zG1: zAk prog 84 6=some 12:=by kernel_rfl
theorem zNo: zAk prog 84 7=some 13:=by kernel_rfl
theorem zNn: zAk prog 84 8=some 14:=by kernel_rfl
theorem zKt: zAk prog 84 9=some 15:=by kernel_rfl
theorem zAV: zBD prog 84=some (true,16):=by kernel_rfl
theorem zDj: zBq prog 84=some [.slice none 0 0,.slice none 0 0,.int .i64 0,.int .i64 0,.slice none 0 0,.slice none 0 0,.int .i64 0,.int .i64 0,.bool false,.int .i64 0,.slice none 0 0,.slice none 0 0,.int .i64 0,.int .i64 0,.slice none 0 0,.int .i64 0]:=by kernel_rfl
theorem zZj: zCj prog 84=some [(0,2),(2,3),(5,1),(6,4),(10,1),(11,1),(12,1),(13,1),(14,1),(15,1)]:=by kernel_rfl
theorem zGD: zAk prog 80 0=some 0:=by kernel_rfl
theorem zG0: zAk prog 80 1=some 1:=by kernel_rfl
theorem zGC: zAk prog 80 2=some 2:=by kernel_rfl
theorem zHn: zBD prog 80=some (true,4):=by kernel_rfl
theorem zKq: zC6 prog 80=some 4:=by kernel_rfl
theorem zJl: (zBq prog 80).isSome=true:=by kernel_rfl
theorem zEP: zA3 prog 81=some 4:=by kernel_rfl
theorem zIq: (zBb prog 81).isSome=true:=by kernel_rfl
theorem zEv: zBb prog 81=some 80:=by kernel_rfl
theorem zKv: zCX prog 81=some 32:=by kernel_rfl
theorem zFD: zBD prog 81=some (false,1):=by kernel_rfl
theorem zKs: zAk prog 140 0=some 0:=by kernel_rfl
theorem zTI: zAk prog 140 1=some 4:=by kernel_rfl
theorem zTH: zAk prog 140 2=some 5:=by kernel_rfl
theorem zJm: zBD prog 140=some (true,6):=by kernel_rfl
theorem zMj: zC6 prog 140=some 6:=by kernel_rfl
theorem zKp: (zBq prog 140).isSome=true:=by kernel_rfl
theorem zPX: zBq prog 140=some [.int .i64 0,.int .i64 0,.bool false,.int .i64 0,.int .i64 0,.int .i64 0]:=by kernel_rfl
theorem zZi: zCj prog 140=some [(0,4),(4,1),(5,1)]:=by kernel_rfl
theorem zEw: zA3 prog 82=some 6:=by kernel_rfl
theorem zKu: (zBb prog 82).isSome=true:=by kernel_rfl
theorem zFr: zBb prog 82=some 140:=by kernel_rfl
theorem zMm: zCX prog 82=some 48:=by kernel_rfl
theorem zGB: zBD prog 82=some (false,1):=by kernel_rfl
theorem zKr: zAk prog 75 0=some 0:=by kernel_rfl
theorem zHp: zAk prog 75 1=some 1:=by kernel_rfl
theorem zCS: zAk prog 75 2=some 2:=by kernel_rfl
theorem zDl: zBD prog 75=some (true,3):=by kernel_rfl
theorem zHm: zBq prog 75=some [.int .i64 0,.int .i64 0,.slice none 0 0]:=by kernel_rfl
theorem zZh: zCj prog 75=some [(0,1),(1,1),(2,1)]:=by kernel_rfl
theorem zHo: zAk prog 132 0=some 0:=by kernel_rfl
theorem zJB: zAk prog 132 1=some 1:=by kernel_rfl
theorem zGz: zAk prog 132 2=some 2:=by kernel_rfl
theorem zEV: zAk prog 132 3=some 3:=by kernel_rfl
theorem zDk: zBD prog 132=some (true,4):=by kernel_rfl
theorem zMi: zC6 prog 132=some 4:=by kernel_rfl
theorem zKo: (zBq prog 132).isSome=true:=by kernel_rfl
theorem zHl: zBq prog 132=some [.int .i64 0,.int .i64 0,.string ByteArray.empty,.slice none 0 0]:=by kernel_rfl
theorem zMk: zCj prog 132=some [(0,1),(1,1),(2,1),(3,1)]:=by kernel_rfl
theorem zCn: zA3 prog 73=some 4:=by kernel_rfl
theorem zZk: (zBb prog 73).isSome=true:=by kernel_rfl
theorem zFq: zBb prog 73=some 132:=by kernel_rfl
theorem zMl: zCX prog 73=some 56:=by kernel_rfl
theorem zC0: zBD prog 73=some (false,1):=by kernel_rfl
theorem zCU: zAk prog 78 0=some 0:=by kernel_rfl
theorem zB4: zAk prog 78 1=some 1:=by kernel_rfl
theorem zA7: zBD prog 78=some (true,2):=by kernel_rfl
theorem zDw: zC6 prog 78=some 2:=by kernel_rfl
theorem zDD: (zBq prog 78).isSome=true:=by kernel_rfl
theorem zCt: zBq prog 78=some [.bool false,.int .i64 0]:=by kernel_rfl
theorem zTG: zCj prog 78=some [(0,1),(1,1)]:=by kernel_rfl
theorem zBC: zA3 prog 76=some 2:=by kernel_rfl
theorem zC1: (zBb prog 76).isSome=true:=by kernel_rfl
theorem zBa: zBb prog 76=some 78:=by kernel_rfl
theorem zDx: zCX prog 76=some 16:=by kernel_rfl
theorem zCB: zBD prog 76=some (false,1):=by kernel_rfl
def rN: Rf->Bool
 | .n _=>true
 | .b _=>false
def rV: Rf->Int
 | .n v=>v
 | .b i=>i
def rfD(r:Rf): D:=.agg [bl (rN r),i64 (rV r)]
def thD(o:Thing): D:=.agg [i64 o.kind,i64 o.tag,str o.text,.slice (o.parts.map rfD)]
def clD(c:Cl): D:=.agg [i64 c.at_,i64 c.base,bl (rN c.fun_),i64 (rV c.fun_)]
def tyD(t:Ty): D:=.agg [i64 t.c.at_,i64 t.c.base,bl (rN t.c.fun_),i64 (rV t.c.fun_),i64 t.height,i64 t.calls]
def hpD(w u:Int)(A:List Thing): D:=.agg [i64 w,i64 u,.slice (A.map thD)]
def smD(m:Img)(s:St): D:=.agg [.slice (m.pool.map enCn),.slice (m.code.map enIn),i64 s.words,i64 s.used,.slice (s.all.map thD),.slice (s.stack.map rfD),i64 s.c.at_,i64 s.c.base,bl (rN s.c.fun_),i64 (rV s.c.fun_),.slice (s.calls.map clD),.slice (s.tries.map tyD),i64 s.fin,i64 s.num,.slice (s.out.map str),i64 s.steps]
structure Sml(s:St): Prop where
 stack:s.stack.length<=1000000
 calls:s.calls.length<=1000000
 tries:s.tries.length<=1000000
 all_:s.all.length<=1000000
 out:s.out.length<=1000000
attribute [local irreducible] zAL Program.underlying Ylds zA2 alex zBZ zBP awp zAb zBh zBg zAW zBF zAp zCO zBG zBR zAr zBV zBY zBe zCQ zBM zA8 zBE
theorem zLl(n:Int): zAb prog 27 [i64 n] (rfD (numR n)):=by
 have hW:=zIM n
 refine zB0 func27 rfl ntmps27 results27 rfl ?_
 intro wb St0
 exact yK
theorem zDX(m:Img)(s:St)(e:Int): zAb prog 28 [smD m s,i64 e] (smD m (s.stop e)):=by
 refine zB0 func28 rfl ntmps28 results28 rfl ?_
 intro wb St0
 unfold smD
 exact yA
theorem zRO(m:Img)(s:St)(k:Nat)(hk:k<s.stack.length)(h1:s.stack.length<=1000000): zAb prog 31 [smD m s,i64 (k:Int)] (rfD (s.top k)):=by
 obtain⟨r,hr⟩:∃r,s.stack[s.stack.length-1-k]?=some r:=⟨_,qAB (by omega)⟩
 have e:s.top k=r:=by unfold St.top;rw[qAD,hr];rfl
 rw[e]
 have hr2:s.stack[((s.stack.length:Int)-1-(k:Int)).toNat]?=some r:=by rw[show ((s.stack.length:Int)-1-(k:Int)).toNat=s.stack.length-1-k by omega];exact hr
 refine zB0 func31 rfl ntmps31 results31 rfl ?_
 intro wb St0
 unfold smD
 exact yK
theorem zFB(m:Img)(s:St)(k:Nat)(hk:k<s.stack.length)(hS:Sml s): zAb prog 31 [smD m s,i64 (k:Int)] (rfD (s.top k)):=zRO m s k hk hS.stack
theorem zRQ(m:Img)(s:St)(k:Int)(hk:-100000<=k/\k<=100000)(hS:Sml s): zAb prog 104 [smD m s,i64 k] (bl (s.high k)):=by
 have h1:=hS.stack
 refine zAj func104 rfl ntmps104 results104 rfl ?_
 intro wb St0
 unfold smD St.high
 exact yU
theorem zRP(t:List UInt8)(_ht:t.length<=1000000): zAb prog 60 [str t] (thD (zB6 t)):=by
 refine zB0 func60 rfl ntmps60 results60 rfl ?_
 intro wb St0
 exact yK
theorem zGR(m:Img)(s:St)(r:Rf)(k:Int)(hr:∀i,r=.b i->i<s.all.length)(hS:Sml s): zAb prog 66 [smD m s,rfD r,i64 k] (bl (s.of r k)):=by
 have h1:=hS.all_
 refine zAj func66 rfl ntmps66 results66 rfl ?_
 intro wb St0
 unfold smD rfD St.of
 cases r with
 |n v =>
  dsimp only[rN,rV]
  repeat' first|apply en_n|apply zAE|apply zAA|apply zAB|apply w0|refine k1u (hd:=rfl) rfl rfl ?_|refine aBoA ?_|refine ayA rfl ?_|apply zAM|apply zAS|refine res1 rfl ?_
  all_goals first|rfl|omega|skip
 |b i =>
  have hi:=hr i rfl
  obtain⟨o,ho⟩:∃o,s.all[i]?=some o:=⟨_,qAB hi⟩
  have e:s.all.getD i default=o:=by rw[qAD,ho];rfl
  have ho2:s.all[((i:Nat):Int).toNat]?=some o:=ho
  dsimp only[rN,rV]
  rw[e]
  repeat' first|apply en_n|apply zAE|apply zAA|apply zAB|apply w0|refine aJA ?_|refine aBoA ?_|refine ayA rfl ?_|apply ay (hd:=rfl)|exact zFC rfl rfl|refine w1 rfl rfl ?_|apply zAM|apply zAS|refine res1 rfl ?_
  all_goals first|rfl|omega|skip
theorem zOz(m:Img)(s:St)(n:Nat)(hn:n<=s.stack.length)(hS:Sml s): zAb prog 64 [smD m s,i64 (n:Int)] (.slice ((s.partsT n).map rfD)):=by
 have h1:=hS.stack
 refine zAj func64 rfl ntmps64 results64 rfl ?_
 intro wb St0
 have e:s.partsT n=s.stack.drop ((s.stack.length:Int)-(n:Int)).toNat:=by unfold St.partsT;rw[show ((s.stack.length:Int)-(n:Int)).toNat=s.stack.length-n by omega]
 rw[e]
 have hcp:((s.stack.drop ((s.stack.length:Int)-(n:Int)).toNat).map rfD).length*16<=140737488355328/\((s.stack.drop ((s.stack.length:Int)-(n:Int)).toNat).map rfD).length<=140737488355328:=by rw[qAC,qAd];omega
 unfold smD
 exact yM
end
section
theorem zHu{C:Ctx}{Q:Exit->Sl->List Ob->Prop}{σ:Sl}{η:List Ob}{id:Nat}{o:Array Oper}{dr:Bool}{c d:Code}(h:Stop (awp C (((Code.region id o dr).seq c).seq d) Q σ η)): awp C (((Code.region id o dr).seq c).seq d) Q σ η:=by
 unfold Stop at h;exact h
abbrev nxB(m:Img)(kn:Bool)(s:VS)(op a b:Int): List Ob:=[.box [.d (.slice (m.pool.map enCn)),.d (.slice (m.code.map enIn))],.box [.d (bl kn),.d (i64 s.of),.d (i64 s.has),.d (i64 s.height),.d (zBU s.tries)],.box [.d (i64 op),.d (i64 a),.d (i64 b)]]
abbrev nxS(k:Int)(s:VS)(e:Eff): Sl:=[(1,.d (i64 k)),(3,.ptr 0 0),(5,.ptr 1 0),(8,.ptr 2 0),(9,.d (i64 (zA1 s))),(12,.d (i64 e.takes)),(13,.d (i64 e.puts)),(14,.d (bl e.holds)),(15,.d (bl e.behind)),(16,.d (bl e.there))]
abbrev nxS0(k:Int)(s:VS): Sl:=[(1,.d (i64 k)),(3,.ptr 0 0),(5,.ptr 1 0),(8,.ptr 2 0),(9,.d (i64 (zA1 s))),(10,.d (bl (decide (s.of>=0)))),(11,.d (bl s.tries.isEmpty)),(12,.d (i64 0)),(13,.d (i64 0)),(14,.d (bl true)),(15,.d (bl true)),(16,.d (bl false))]
structure NxAt(m:Img)(k:Int)(i:Ins)(s:VS): Prop where
 pos:0<=k
 at_:m.code[k.toNat]?=some i
 code:m.code.length<=20000
 img:ImgOk m
 ht:-1000000000<=s.height/\s.height<=1000000000
 tr:s.tries.length<=2000000
attribute [local irreducible] zAL Program.underlying Ylds zA2 alex zBZ zBP awp zAb zBh zBg zAW zBF zAp zCO zBG zBR zAr zBV zBY zBe zCQ zBM zA8 zBE JFit
theorem zao(m:Img)(kn:Bool){k op a b:Int}{s:VS}(hd:NxAt m k ⟨op,a,b⟩ s)(wb:World)(St0:Stab)(Q:Exit->Sl->List Ob->Prop)
  (h:awp ⟨prog,284,wb,St0,fun _=>False,0⟩ (zEX 6 (zCw Tryz.f56)) Q (nxS0 k s) (nxB m kn s op a b)) :
  awp ⟨prog,284,wb,St0,fun _=>False,0⟩ (zCw Tryz.f56) Q (zPC [zCs m,i64 k,rsD kn s] 0) []:=by
 obtain⟨hk0,hat0,hbig,him,hh,htr⟩:=hd
 have hat:=zGL (f:=enIn) hat0
 have hk1:k<(m.code.length:Int):=by have:=(qAA.1 hat0).1;omega
 obtain⟨of,has,he,tr⟩:=s
 unfold zCs rsD at *
 dsimp only at *
 conv at h=>arg 2;whnf
 conv=>arg 2;whnf
 skip
 repeat' first|(refine zCi (id:=5) ?_)|(refine zRd (x:=.tmp 27) rfl [(1,.d (i64 k)),(3,.ptr 0 0),(5,.ptr 1 0),(8,.ptr 2 0),(9,.d (i64 (zA1 ⟨of,has,he,tr⟩)))] (nxB m kn ⟨of,has,he,tr⟩ op a b) (fun hp=>?_) (fun hp=>?_) ?_)|apply en_n|apply zAE|apply zAA|apply zAB|apply w0|refine aStA ?_|refine aJA ?_|(apply aI (hd:=rfl);(first|exact zA0 rfl|exact zBX rfl rfl rfl|exact Co_nn rfl);exact rfl;(with_reducible exact zBf);exact fun _=>rfl;rotate_left;intro v hv;rotate_right)|refine aBoA ?_|refine aAlA ?_|refine ayA rfl ?_|apply ay (hd:=rfl)|exact zHI rfl rfl|refine zCe rfl rfl ?_|(refine w0' ?_)|apply zAP
 ·omega
 ·omega
 ·refine jfit (zAU (Le_cons rfl (Le_cons rfl (Le_cons rfl (Le_cons rfl (Le_cons ?_ Le_nil))))) (zAK rfl rfl (zAK rfl rfl (zD5 rfl zDA zAe))) rfl rfl)
  have e:((tr.length:Int)-1).toNat=tr.length-1:=by omega
  rw[e,<-qBG]at hv
  have e2:zA1 ⟨of,has,he,tr⟩=v:=by unfold zA1;rw[hv];rfl
  rw[e2];rfl
 ·refine jfit (zAU (Le_cons rfl (Le_cons rfl (Le_cons rfl (Le_cons rfl (Le_cons ?_ Le_nil))))) (zAK rfl rfl (zAK rfl rfl (zD5 rfl zDA zAe))) rfl rfl)
  have e:tr=[]:=List.length_eq_zero_iff.1 (by omega)
  have e2:zA1 ⟨of,has,he,tr⟩=0:=by unfold zA1;rw[e];rfl
  rw[e2];rfl
 refine Stop.go ?_
 repeat' first|(refine zHu (id:=7) ?_)|apply en_n|apply zAE|apply zAA|apply zAB|apply w0|refine ayA rfl ?_|apply ay (hd:=rfl)|exact zJg rfl rfl|exact zFC rfl rfl|refine awDA ?_
 refine Stop.go ?_
 refine zBW (zAU (Le_cons rfl (Le_cons rfl (Le_cons rfl (Le_cons rfl (Le_cons rfl (Le_cons rfl (Le_cons ?_ (Le_all rfl)))))))) (zA4 _) rfl rfl) h
 have e11:decide ((tr.length:Int)=0)=tr.isEmpty:=by cases tr <;> simp;omega
 rw[<-e11];rfl
