import Derived.Test.YtcagoomibpcdlaaGreatDoorMAT
set_option maxHeartbeats 16000000
namespace Go.Proofs.YtcagoomibpcdlaaGreatDoor
open Go.Sx Go.Vm
open _root_.Go.Proofs.Tryz
section
abbrev CXs(m:Img)(c:CK)(s:CS)(b:Bool)(fl:Int): List Ob:=CX m c++[.box [.d (i64 s.of),.d (i64 s.height),.d (zBU s.tries),.d (bl b)],.box [.d (i64 fl)],.box [.ptr 0 0]]
def CAs(fx:Nat->Option Nat)(m:Img)(c:CK)(s:CS)(b:Bool)(fl:Int): List Ob:=CA fx m c++[.bx (fx 4) none [.d (i64 s.of),.d (i64 s.height),.d (zBU s.tries),.d (bl b)],.bx (fx 5) none [.d (i64 fl)],.bx (fx 6) none [.ptr 0 0]]
theorem zWE(fx:Nat->Option Nat)(m:Img)(c:CK)(s:CS)(b:Bool)(fl:Int): (CAs fx m c s b fl).all (Ob.below (CAs fx m c s b fl).length)=true:=rfl
theorem zQ7{f:FuncId}{fn:Func}{cd:Code}{avs:List SV}{m:Img}{c c':CK}{s:CS}{b:Bool}{fl:Int}{N:Nat}{rs:Array ResultVar}(hf:prog.funcs[f]?=some fn)(hb:fn.body=some cd)(hN:fn.ntmps=N)(hrs:fn.results=rs)(hl:Nat.ble avs.length N=true)
  (h:∀(w0:World) (St0:Stab) (X:Nat->Prop) (fx:Nat->Option Nat),awp ⟨prog,N,w0,St0,X,0⟩ cd (zBM rs .top (CAs fx m c' s b fl)) (zHx avs 0) (CAs fx m c s b fl)):zAW prog f avs (CXs m c s b fl) .top (CXs m c' s b fl) :=
 zEh hf hb hN hrs hl rfl rfl h
theorem zV3{fx:Nat->Option Nat}{m:Img}{c:CK}{s:CS}{b:Bool}{fl:Int}{tl:List Ob}: Pre (CAs fx m c s b fl) (CAs fx m c s b fl++tl):=zAK rfl rfl (zAK rfl rfl (zAK rfl rfl (zAK rfl rfl (zAK rfl rfl (zAK rfl rfl (zAK rfl rfl zAe))))))
theorem zUm{fx:Nat->Option Nat}{m:Img}{c:CK}{s:CS}{b:Bool}{fl:Int}{σ:Sl}{η tl:List Ob}(he:η=CAs fx m c s b fl++tl): zBM #[] .top (CAs fx m c s b fl) .normal σ η:=by
 subst he
 exact zC5 ⟨rfl,zAU Le_nil zV3 rfl (zWE fx m c s b fl)⟩
theorem zUl{fx:Nat->Option Nat}{m:Img}{c:CK}{s:CS}{b:Bool}{fl:Int}{σ:Sl}{η tl:List Ob}(he:η=CAs fx m c s b fl++tl): zBM #[] .top (CAs fx m c s b fl) .ret σ η:=by
 subst he
 exact zDe ⟨rfl,zAU Le_nil zV3 rfl (zWE fx m c s b fl)⟩
attribute [local irreducible] zAL Program.underlying Ylds zA2 alex zBZ zBP awp zAb zBh zBg zAW zBF zAp zCO zBG zBR zAr zBV zBY zBe zCQ zBM zA8 zBE
abbrev zDH(m:Img)(c c':CK)(s:CS)(b:Bool)(fl takes puts:Int)(holds:Bool)(dst:SV): Prop:=zAW prog 120 [.d (i64 takes),.d (i64 puts),.d (bl holds),dst,.ptr 4 0,.ptr 5 0,.ptr 6 0] (CXs m c s b fl) .top (CXs m c' s b fl)
theorem zQZ(m:Img)(c:CK)(s:CS)(b:Bool)(fl takes puts:Int)(dst:SV): zDH m c { c with bad:=true } s b fl takes puts false dst:=by
 refine zQ7 func120 rfl ntmps120 results120 rfl ?_
 intro wb St0 X fx
 exact yA
theorem zNz(m:Img)(c:CK)(s:CS)(b:Bool)(fl takes puts:Int)(dst:SV)(h:s.height-takes<fl)(hb:0<=s.height/\s.height<=2000000/\0<=takes/\takes<=2000000): zDH m c { c with bad:=true } s b fl takes puts true dst:=by
 refine zQ7 func120 rfl ntmps120 results120 rfl ?_
 intro wb St0 X fx
 exact yA
theorem zWn(m:Img)(s:CS)(b:Bool)(fl takes puts:Int)(ts:List Int)(acc:Nat->CK)(h:¬s.height-takes<fl)(hb:0<=s.height/\s.height<=2000000/\0<=takes/\takes<=2000000/\0<=puts/\puts<=2000000)(hl:ts.length<=1000)(hC:∀i t,ts[i]?=some t->zJk m (acc i) (acc (i+1)) t ⟨s.of,s.height-takes+puts,s.tries⟩): zDH m (acc 0) (acc ts.length) s b fl takes puts true (.d (zBU ts)):=by
 refine zQ7 func120 rfl ntmps120 results120 rfl ?_
 intro wb St0 X fx
 repeat' first|apply en_n|apply zAE|apply zAA|apply zAB|apply w0|(refine zBI (cs:=[i64 s.of,i64 (s.height-takes+puts),zBU s.tries,bl false]) zID zFt (PD_d rfl rfl (PD_d rfl rfl (PD_d rfl rfl zCI))) rfl)|refine aStA ?_|refine aAlA ?_|refine ayA rfl ?_|refine ayQ rfl ?_|apply ay (hd:=rfl)|refine zBp rfl rfl ?_|refine zCe rfl rfl ?_|refine w1 rfl rfl ?_|(refine w0' ?_)|refine zAI rfl ?_|apply zAO|apply zAP
 all_goals first|omega|skip
 refine zBA (α:=Nat) (fun i=>i<=ts.length) (fun i=>[(6,.ptr 6 0),(11,.ptr 7 0),(38,.d (zBU ts)),(39,.d (i64 (ts.length:Int))),(40,.d (i64 (i:Int)))]) (fun i=>CA fx m (acc i)++[.bx (fx 4) none [.d (i64 s.of),.d (i64 s.height),.d (zBU s.tries),.d (bl b)],.bx (fx 5) none [.d (i64 fl)],.bx (fx 6) none [.ptr 0 0],.box [.d (i64 s.of),.d (i64 (s.height-takes+puts)),.d (zBU s.tries),.d (bl false)]]) (fun i=>ts.length-i) 0 (qAQ _) ?_ ?_
 ·exact zAU (Le_all rfl) (zA4 _) rfl rfl
 intro i hi
 rcases qAR i ts.length with hlt|hge
 ·obtain⟨t,ht⟩:∃t,ts[i]?=some t:=⟨_,qAB hlt⟩
  have hCi:=hC i t ht
  have hat:(ts.map ival)[((i:Nat):Int).toNat]?=some (ival t):=by rw[qAn,qAH,ht];rfl
  have hc:(i:Int)<(ts.length:Int):=by omega
  skip
  repeat' first|apply en_n|apply zAE|apply zAA|apply zAB|apply w0|(refine aCK (tl:=[.bx (fx 4) none [.d (i64 s.of),.d (i64 s.height),.d (zBU s.tries),.d (bl b)],.bx (fx 5) none [.d (i64 fl)],.bx (fx 6) none [.ptr 0 0],.box [.d (i64 s.of),.d (i64 (s.height-takes+puts)),.d (zBU s.tries),.d (bl false)]]) (tl':=[.bx (fx 4) none [.d (i64 s.of),.d (i64 s.height),.d (zBU s.tries),.d (bl b)],.bx (fx 5) none [.d (i64 fl)],.bx (fx 6) none [.ptr 0 0],.box [.d (i64 s.of),.d (i64 (s.height-takes+puts)),.d (zBU s.tries),.d (bl false)]]) zHB hCi (SArgs_all rfl) rfl rfl rfl rfl ?_)|refine aJA ?_|refine ayA rfl ?_|refine ayQ rfl ?_|apply ay (hd:=rfl)|refine zBp rfl rfl ?_|refine zAJ rfl ?_|apply zAO|apply zAP|apply eb_n
  all_goals first|omega|skip
  refine⟨i+1,hlt,by omega,zAU (Le_cons rfl (Le_cons rfl (Le_cons rfl (Le_cons rfl (Le_d rfl (by push_cast;rfl) Le_nil))))) (zA4 _) rfl rfl⟩
 ·have e:i=ts.length:=by omega
  subst e
  have hc:¬(ts.length:Int)<(ts.length:Int):=by omega
  exact yX
theorem zTe(m:Img)(s:CS)(b:Bool)(fl takes puts:Int)(c:CK)(h:¬s.height-takes<fl)(hb:0<=s.height/\s.height<=2000000/\0<=takes/\takes<=2000000/\0<=puts/\puts<=2000000): zDH m c c s b fl takes puts true (.nil):=by
 refine zQ7 func120 rfl ntmps120 results120 rfl ?_
 intro wb St0 X fx
 repeat' first|apply en_n|apply zAE|apply zAA|apply zAB|apply w0|(refine zBI (cs:=[i64 s.of,i64 (s.height-takes+puts),zBU s.tries,bl false]) zID zFt (PD_d rfl rfl (PD_d rfl rfl (PD_d rfl rfl zCI))) rfl)|refine aStA ?_|refine aAlA ?_|refine ayA rfl ?_|refine ayQ rfl ?_|apply ay (hd:=rfl)|refine zBp rfl rfl ?_|refine zCe rfl rfl ?_|exact zVv rfl zCp|refine w1 rfl rfl ?_|(refine w0' ?_)|refine zAI rfl ?_|apply zAO|apply zAP
 all_goals first|omega|skip
 refine zBA (α:=Unit) (fun _=>True) (fun _=>[(39,.d (i64 0)),(40,.d (i64 0))]) (fun _=>CA fx m (c)++[.bx (fx 4) none [.d (i64 s.of),.d (i64 s.height),.d (zBU s.tries),.d (bl b)],.bx (fx 5) none [.d (i64 fl)],.bx (fx 6) none [.ptr 0 0],.box [.d (i64 s.of),.d (i64 (s.height-takes+puts)),.d (zBU s.tries),.d (bl false)]]) (fun _=>0) () trivial ?_ ?_
 ·exact zAU (Le_all rfl) (zA4 _) rfl rfl
 intro i hi
 have hc:¬(0:Int)<0:=by omega
 exact yX
end
section
def flo(s:CS): Int:=(s.tries.getLast?).getD 0
structure DoAt(m:Img)(c:CK)(k:Int)(i:Ins)(s:CS): Prop where
 k0:0<=k
 code:m.code[k.toNat]?=some i
 st:c.at_[k.toNat]?=some (some s)
 big:m.code.length<=1048576
 len:c.at_.length=m.code.length
 hgt:0<=s.height/\s.height<=2000000
 tr:s.tries.length<=2000000
 a:0<=i.a/\i.a<=1048576
 b:0<=i.b/\i.b<=1048576
 fl:flo s=(s.tries.getLast?).getD 0
abbrev DoTo(m:Img)(c c':CK)(k:Int): Prop:=zAW prog 74 [.ptr 0 0,.d (i64 k)] (CX m c) .top (CX m c')
def zEX: Nat->Code->Code
 |0,c=>c
 |n+1,.seq _ c=>zEX n c
 |_+1,c=>c
def zCw(f:Func): Code:=f.body.getD .skip
theorem zeK{C:Ctx}{Q:Exit->Sl->List Ob->Prop}{σ:Sl}{η:List Ob}{id:Nat}{c:Code}(h:Stop (awp C (.block id c) Q σ η)): awp C (.block id c) Q σ η:=by
 unfold Stop at h;exact h
theorem zCi{C:Ctx}{Q:Exit->Sl->List Ob->Prop}{σ:Sl}{η:List Ob}{id:Nat}{o:Array Oper}{dr:Bool}{c:Code}(h:Stop (awp C ((Code.region id o dr).seq c) Q σ η)): awp C ((Code.region id o dr).seq c) Q σ η:=by
 unfold Stop at h;exact h
theorem zDA{k:Option Nat}{et:Option TypeId}{cs:List SV}: WOb (.bx none none cs) (.bx k et cs):=fun g w id h=>by
 obtain⟨b,e,us,h1,h2,h3,h4,h5,h6,h7,h8⟩:=h
 exact⟨b,e,us,h1,h2,h3,h4,h5,h6,(fun c hc=>by cases hc),(fun t ht=>by cases ht)⟩
abbrev doB(op a b:Int)(s:CS): List Ob:=[.box [.ptr 0 0],.box [.d (i64 op),.d (i64 a),.d (i64 b)],.box [.d (i64 s.of),.d (i64 s.height),.d (zBU s.tries),.d (bl true)],.box [.d (i64 (flo s))]]
abbrev doS(k op:Int)(s:CS): Sl:=[(1,.d (i64 k)),(2,.ptr 4 0),(4,.ptr 5 0),(5,.ptr 6 0),(6,.ptr 7 0),(7,.d (bl (decide (s.of≠-1)))),(8,.clo 120 [6,7,4]),(41,.d (i64 op))]
attribute [local irreducible] zAL Program.underlying Ylds zA2 alex zBZ zBP awp zAb zBh zBg zAW zBF zAp zCO zBG zBR zAr zBV zBY zBe zCQ zBM zA8 zBE JFit
theorem zI6(m:Img)(c:CK){k op a b:Int}{s:CS}(hd:DoAt m c k ⟨op,a,b⟩ s)(wb:World)(St0:Stab)(X:Nat->Prop)(fx:Nat->Option Nat)(Q:Exit->Sl->List Ob->Prop)
  (h:awp ⟨prog,321,wb,St0,X,0⟩ (zEX 7 (zCw Tryz.f74)) Q (doS k op s) (CA fx m c++doB op a b s)) :
  awp ⟨prog,321,wb,St0,X,0⟩ (zCw Tryz.f74) Q (zHx [.ptr 0 0,.d (i64 k)] 0) (CA fx m c):=by
 obtain⟨hk0,hat0,hst0,hbig,hlen,hh,htr,ha,hb,hfl⟩:=hd
 have hat:=zGL (f:=enIn) hat0
 have hst:(c.at_.map enCS)[k.toNat]?=some (vD s true):=by rw[qAH,hst0];rfl
 have hr0:=(qAA.1 hst0).1
 have hr1:0<=k/\k<(c.at_.length:Int):=by omega
 have hr2:c.at_.length<=(c.at_.map enCS).length:=by rw[qAC];exact qAP _
 dsimp only at ha hb
 clear hat0 hst0
 conv at h=>arg 2;whnf
 conv=>arg 2;whnf
 repeat' first|(refine zCi (id:=2) ?_)|(refine zHF (id:=1) [.y (.ptr 0 0),.y (.ptr 0 0),.y (.ptr 0 (0+0)),.y (.ptr 0 (0+0+1)),.y (.d (.slice (m.code.map enIn))),.y (.d (i64 k)),.y (.rptr [i64 op,i64 a,i64 b]),.y (.d (.agg (List.take 3 [i64 op,i64 a,i64 b]))),.y (.ptr 0 0),.y (.ptr 0 0),.y (.ptr 0 (0+2)),.y (.buf 1 c.at_.length),.y (.d (i64 k)),.y (.bptr 1 k.toNat 0),.y (.d (.agg [i64 s.of,i64 s.height,zBU s.tries,bl true])),.mk ⟨4,[.int .i64 0,.int .i64 0,.int .i64 0],46,[.d (i64 op),.d (i64 a),.d (i64 b)]⟩ (some 17),.mk ⟨5,[.int .i64 0,.int .i64 0,.slice none 0 0,.bool false],151,[.d (i64 s.of),.d (i64 s.height),.d (zBU s.tries),.d (bl true)]⟩ (some 18),.st 15 ⟨4,[.int .i64 0,.int .i64 0,.int .i64 0],46,[.d (i64 op),.d (i64 a),.d (i64 b)]⟩,.st 16 ⟨5,[.int .i64 0,.int .i64 0,.slice none 0 0,.bool false],151,[.d (i64 s.of),.d (i64 s.height),.d (zBU s.tries),.d (bl true)]⟩] (by kernel_rfl) (by kernel_rfl) (.inl (by kernel_rfl)) ⟨⟨rfl,zAG rfl zDJ rfl rfl⟩,rfl,⟨rfl,zAa rfl⟩,rfl,⟨rfl,zAF rfl zEK⟩,rfl,⟨rfl,zAF rfl zC4⟩,rfl,⟨rfl,zAG rfl zDz rfl rfl⟩,rfl,⟨rfl,zAD rfl⟩,rfl,⟨rfl,zVx rfl rfl zFg hk0 hat rfl (by decide)⟩,rfl,⟨rfl,zBz rfl zFf rfl⟩,rfl,⟨rfl,zAG rfl zDJ rfl rfl⟩,rfl,⟨rfl,zAa rfl⟩,rfl,⟨rfl,zAF rfl zF5⟩,rfl,⟨rfl,zAG rfl zFO rfl rfl⟩,rfl,⟨rfl,zAD rfl⟩,rfl,⟨rfl,zBQ rfl rfl rfl zKO hr1 hr2⟩,rfl,⟨rfl,zEf rfl zFu rfl hst rfl rfl rfl⟩,rfl,⟨rfl,rfl,rfl,zJo,by kernel_rfl,rfl⟩,rfl,⟨rfl,rfl,rfl,zFt,by kernel_rfl,rfl⟩,rfl,⟨⟨_,_,_,_,_,rfl,rfl,rfl,zFf,rfl⟩,rfl,rfl,rfl,rfl,rfl⟩,⟨⟨_,_,_,_,_,rfl,rfl,rfl,zFu,rfl⟩,rfl,rfl,rfl,rfl,rfl⟩,trivial⟩ ?_)|apply en_n|apply zAE|apply zAA|apply zAB|apply w0|refine aBoA ?_
 refine Stop.go ?_
 refine zBW (s:=[(1,.d (i64 k)),(2,.ptr 4 0),(4,.ptr 5 0),(5,.ptr 6 0)]) (h:=CA fx m c++[.box [.ptr 0 0],.box [.d (i64 op),.d (i64 a),.d (i64 b)],.box [.d (i64 s.of),.d (i64 s.height),.d (zBU s.tries),.d (bl true)]]) ?_ ?_
 ·exact zAU (Le_all rfl) (zAK rfl rfl (zAK rfl rfl (zAK rfl rfl (zAK rfl rfl (zD5 rfl zDA (zD5 rfl zDA (zD5 rfl zDA zAe))))))) rfl rfl
 repeat' first|(refine zCi (id:=5) ?_)|(refine zRd (x:=.tmp 27) rfl [(1,.d (i64 k)),(2,.ptr 4 0),(4,.ptr 5 0),(5,.ptr 6 0),(6,.ptr 7 0)] (CA fx m c++[.box [.ptr 0 0],.box [.d (i64 op),.d (i64 a),.d (i64 b)],.box [.d (i64 s.of),.d (i64 s.height),.d (zBU s.tries),.d (bl true)],.box [.d (i64 (flo s))]]) (fun hp=>?_) (fun hp=>?_) ?_)|apply en_n|apply zAE|apply zAA|apply zAB|apply w0|(apply zAG;exact rfl;(first|with_reducible exact zAY|with_reducible exact zB1|with_reducible exact zDJ|with_reducible exact zB5|with_reducible exact zAw|with_reducible exact zEJ|with_reducible exact zAm);exact rfl;exact rfl)|refine aStA ?_|(apply aI (hd:=rfl);(first|exact zA0 rfl|exact zBX rfl rfl rfl|exact Co_nn rfl);exact rfl;(with_reducible exact zBf);exact fun _=>rfl;rotate_left;intro v hv;rotate_right)|refine aAlA ?_|refine ayA rfl ?_|apply ay (hd:=rfl)|exact zHI rfl rfl|refine zCe rfl rfl ?_|(refine w0' ?_)|apply zAP
 ·omega
 ·omega
 ·refine jfit (zAU (Le_all rfl) (zAK rfl rfl (zAK rfl rfl (zAK rfl rfl (zAK rfl rfl (zAK rfl rfl (zAK rfl rfl (zAK rfl rfl (zAK rfl ?_ zAe)))))))) rfl rfl)
  have e:((s.tries.length:Int)-1).toNat=s.tries.length-1:=by omega
  rw[e,<-qBG]at hv
  have e2:flo s=v:=by unfold flo;rw[hv];rfl
  rw[e2];rfl
 ·refine jfit (zAU (Le_all rfl) (zAK rfl rfl (zAK rfl rfl (zAK rfl rfl (zAK rfl rfl (zAK rfl rfl (zAK rfl rfl (zAK rfl rfl (zAK rfl ?_ zAe)))))))) rfl rfl)
  have e:s.tries=[]:=List.length_eq_zero_iff.1 (by omega)
  have e2:flo s=0:=by unfold flo;rw[e];rfl
  rw[e2];rfl
 refine Stop.go ?_
 repeat' first|(refine zeK ?_)|apply en_n|apply zAE|apply zAA|apply zAB|apply w0|(apply zAG;exact rfl;(first|with_reducible exact zAY|with_reducible exact zB1|with_reducible exact zDJ|with_reducible exact zB5|with_reducible exact zAw|with_reducible exact zEJ|with_reducible exact zAm);exact rfl;exact rfl)|refine ayA rfl ?_|apply ay (hd:=rfl)|exact zJf rfl rfl|exact zKE rfl|exact zME rfl
 refine Stop.go ?_
 exact zBW (zAU (Le_all rfl) (zA4 _) rfl rfl) h
