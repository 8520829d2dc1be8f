/- Texts of this claim, merged: VmBR, VmDE. -/
import Derived.Test.YtcagoomibpcdlaaGreatDoorMAB
import Derived.Test.YtcagoomibpcdlaaGreatDoorMAX
import Derived.Test.YtcagoomibpcdlaaGreatDoorMBA
import Derived.Test.YtcagoomibpcdlaaGreatDoorMBL
namespace Go.Proofs.YtcagoomibpcdlaaGreatDoor
open Go.Sx Go.Vm
attribute [local irreducible] zAQ Program.underlying Ylds zBD alex zCA zBi awp zAp zCI zCH zAW zBw zA5 zB0 zBp zBF zBv zB9 zCE zBn zBm zBs
set_option maxHeartbeats 4000000 in
theorem zST(m:Img)(r r':Raw){a b:Int}(hc:InsAt m r ⟨20,a,b⟩){w:Nat}(hT:zA5 Tryz.prog 24 [.ptr 0 0,.d (i64 0)] (MX m (nxt r)) (w64 w))(hP:zAW Tryz.prog 49 [.ptr 0 0,.d (w64 w)] (MX m (nxt r)) (.d (.tup [i64 0,bl false])) (MX m r')): zAW Tryz.prog 22 [.ptr 0 0] (MX m r) .top (MX m r'):=by
 obtain⟨hpos,hat0,hbig⟩:=hc
 have hbd:=(List.getElem?_eq_some_iff.1 hat0).1
 have hat:=zBx (f:=enIn) hat0
 refine zAy Tryz.func22 rfl Tryz.ntmps22 Tryz.results22 rfl ?_
 intro wb St0 X fx
 repeat' first|(refine zBT (id:=0) [.y (.ptr 0 0),.y (.ptr 0 0),.y (.ptr 0 (0+0)),.y (.ptr 0 (0+0+1)),.y (.d (.slice (m.code.map enIn))),.y (.ptr 0 0),.y (.ptr 0 0),.y (.ptr 0 (0+4)),.y (.ptr 0 (0+4+0)),.y (.d (i64 r.c.at_)),.y (.rptr [i64 20,i64 a,i64 b]),.y (.d (.agg (List.take 3 [i64 20,i64 a,i64 b]))),.mk ⟨2,_,46,_⟩ none] (by kernel_rfl) (by kernel_rfl) (.inr (by kernel_rfl)) ⟨⟨rfl,zAH rfl⟩,rfl,⟨rfl,zAN rfl⟩,rfl,⟨rfl,zAC rfl zBB⟩,rfl,⟨rfl,zAC rfl zBE⟩,rfl,⟨rfl,zAG rfl zBk rfl rfl⟩,rfl,⟨rfl,zAH rfl⟩,rfl,⟨rfl,zAN rfl⟩,rfl,⟨rfl,zAC rfl zAb⟩,rfl,⟨rfl,zAC rfl zAe⟩,rfl,⟨rfl,zAG rfl zAS rfl rfl⟩,rfl,⟨rfl,zCU rfl rfl zB6 hpos hat rfl (by decide)⟩,rfl,⟨rfl,zBU rfl zA6 rfl⟩,rfl,⟨rfl,rfl,rfl,zCK,by kernel_rfl,rfl⟩,rfl,trivial⟩ ?_)|(refine zBP (id:=2) (s:=[(0,.ptr 0 0),(2,.ptr 9 0)]) (h:=MA fx m (nxt r)++[inB 20 a b]) (zAV (zAI rfl (zAI rfl zAd)) (zCV rfl rfl rfl) rfl rfl) ?_)|apply en_n|apply zAK|apply zAA|apply zAF|apply w0|(refine zBr (by kernel_rfl) ?_;apply zAl;exact rfl;exact rfl;exact rfl;(with_reducible exact zA6);exact rfl;exact rfl;exact rfl;exact rfl)|(apply zAn;exact rfl;exact rfl;first|assumption|omega)|(apply zAs;exact rfl;exact rfl;first|assumption|omega)|exact zAN rfl|(apply zAG;exact rfl;(first|with_reducible exact zAf|with_reducible exact vq_tc_23);exact rfl;exact rfl)|(refine zAZ ids9 [] rfl rfl zAv (hT) rfl ?_ rfl (by decide) rfl rfl rfl rfl;(repeat (refine zAB rfl ?_));exact zAE)|(refine aVMt (fx:=fx) (m:=m) (r:=nxt r) (tl:=[inB 20 a b]) zCN hP ?_ rfl rfl rfl rfl ?_;(repeat (refine zAB rfl ?_));exact zAE)|apply ay (hd:=rfl)|exact zAJ rfl|exact zAD rfl|(apply zBL;exact rfl;exact rfl)|exact zAm rfl rfl|exact zAH rfl|(apply zAC;exact rfl;(with_reducible first|exact zBJ|exact zAe|exact zAb))|(apply zAG;exact rfl;(with_reducible exact zAS);exact rfl;exact rfl)|(refine w0' ?_)|(apply zAl;exact rfl;exact rfl;exact rfl;(with_reducible exact zAS);exact rfl;exact rfl;exact rfl;exact rfl)|(apply zAL;exact rfl)|(apply zAM;exact rfl)|apply zAO|apply zAU|apply eb_n
 all_goals first|omega|skip
 all_goals exact zBM rfl rfl
set_option maxHeartbeats 4000000 in
theorem zVF(m:Img)(r r':Raw){a b:Int}(hc:InsAt m r ⟨20,a,b⟩){w:Nat}{x y:Int}{t:Bool}{s:List UInt8}(hT:zA5 Tryz.prog 24 [.ptr 0 0,.d (i64 0)] (MX m (nxt r)) (w64 w))(hN:zA5 Tryz.prog 49 [.ptr 0 0,.d (w64 w)] (MX m (nxt r)) (.tup [i64 x,bl true]))(hb0:0≤b)(hk:m.pool[b.toNat]?=some ⟨t,y,s⟩)(hG:zAW Tryz.prog 51 [.ptr 0 0,.d (i64 a),.d (bl (decide (x≠y)))] (MX m (nxt r)) .top (MX m r')): zAW Tryz.prog 22 [.ptr 0 0] (MX m r) .top (MX m r'):=by
 obtain⟨hpos,hat0,hbig⟩:=hc
 have hbd:=(List.getElem?_eq_some_iff.1 hat0).1
 have hat:=zBx (f:=enIn) hat0
 refine zAy Tryz.func22 rfl Tryz.ntmps22 Tryz.results22 rfl ?_
 intro wb St0 X fx
 repeat' first|(refine zBT (id:=0) [.y (.ptr 0 0),.y (.ptr 0 0),.y (.ptr 0 (0+0)),.y (.ptr 0 (0+0+1)),.y (.d (.slice (m.code.map enIn))),.y (.ptr 0 0),.y (.ptr 0 0),.y (.ptr 0 (0+4)),.y (.ptr 0 (0+4+0)),.y (.d (i64 r.c.at_)),.y (.rptr [i64 20,i64 a,i64 b]),.y (.d (.agg (List.take 3 [i64 20,i64 a,i64 b]))),.mk ⟨2,_,46,_⟩ none] (by kernel_rfl) (by kernel_rfl) (.inr (by kernel_rfl)) ⟨⟨rfl,zAH rfl⟩,rfl,⟨rfl,zAN rfl⟩,rfl,⟨rfl,zAC rfl zBB⟩,rfl,⟨rfl,zAC rfl zBE⟩,rfl,⟨rfl,zAG rfl zBk rfl rfl⟩,rfl,⟨rfl,zAH rfl⟩,rfl,⟨rfl,zAN rfl⟩,rfl,⟨rfl,zAC rfl zAb⟩,rfl,⟨rfl,zAC rfl zAe⟩,rfl,⟨rfl,zAG rfl zAS rfl rfl⟩,rfl,⟨rfl,zCU rfl rfl zB6 hpos hat rfl (by decide)⟩,rfl,⟨rfl,zBU rfl zA6 rfl⟩,rfl,⟨rfl,rfl,rfl,zCK,by kernel_rfl,rfl⟩,rfl,trivial⟩ ?_)|(refine zBP (id:=2) (s:=[(0,.ptr 0 0),(2,.ptr 9 0)]) (h:=MA fx m (nxt r)++[inB 20 a b]) (zAV (zAI rfl (zAI rfl zAd)) (zCV rfl rfl rfl) rfl rfl) ?_)|apply en_n|apply zAK|apply zAA|apply zAF|apply w0|(refine zBr (by kernel_rfl) ?_;apply zAl;exact rfl;exact rfl;exact rfl;(with_reducible exact zA6);exact rfl;exact rfl;exact rfl;exact rfl)|(apply zAn;exact rfl;exact rfl;first|assumption|omega)|(apply zAs;exact rfl;exact rfl;first|assumption|omega)|exact zAN rfl|(apply zAG;exact rfl;(first|with_reducible exact zAf|with_reducible exact vq_tc_23);exact rfl;exact rfl)|(refine zAZ ids9 [] rfl rfl zAv (hT) rfl ?_ rfl (by decide) rfl rfl rfl rfl;(repeat (refine zAB rfl ?_));exact zAE)|(refine zAZ ids9 [] rfl rfl zCN (hN) rfl ?_ rfl (by decide) rfl rfl rfl rfl;(repeat (refine zAB rfl ?_));exact zAE)|(refine zBr (by kernel_rfl) ?_;refine aVMt (fx:=fx) (m:=m) (r:=nxt r) (tl:=[inB 20 a b]) zHu hG ?_ rfl rfl rfl rfl ?_;(repeat (refine zAB rfl ?_));exact zAE)|(apply aJ (hd:=rfl);(first|exact zCw rfl|exact zDn rfl rfl rfl|exact Co_nn rfl);exact rfl;(with_reducible exact zD7);assumption;omega;exact fun _=>rfl)|apply ay (hd:=rfl)|exact zAJ rfl|exact zAD rfl|(apply zFd;exact rfl;(with_reducible exact zFP))|(apply zC3;exact rfl;(with_reducible exact zFh))|exact zHz rfl rfl|(apply zBL;exact rfl;exact rfl)|exact zAm rfl rfl|exact zAH rfl|(apply zAC;exact rfl;(with_reducible first|exact zCi|exact zBJ|exact zAu|exact zCd|exact zAe|exact zBB|exact zAb))|(apply zAG;exact rfl;(with_reducible first|exact zA0|exact zAS);exact rfl;exact rfl)|(refine w0' ?_)|(apply zAl;exact rfl;exact rfl;exact rfl;(with_reducible exact zAS);exact rfl;exact rfl;exact rfl;exact rfl)|(apply zAL;exact rfl)|(apply zAM;exact rfl)|apply zAO|refine zAr (by kernel_rfl) (by kernel_rfl) ?_|apply eb_n
 all_goals first|omega|skip
 all_goals exact zBM rfl rfl
end Go.Proofs.YtcagoomibpcdlaaGreatDoor
namespace Go.Proofs.YtcagoomibpcdlaaGreatDoor
open Go.Sx Go.Vm
def flo(s:CS): Int:=(s.tries.getLast?).getD 0
structure DoAt(m:Img)(c:CK)(k:Int)(i:Ins)(s:CS): Prop where
 k0:0≤k
 code:m.code[k.toNat]?=some i
 st:c.at_[k.toNat]?=some (some s)
 big:m.code.length≤1048576
 len:c.at_.length=m.code.length
 hgt:0≤s.height∧s.height≤2000000
 tr:s.tries.length≤2000000
 a:0≤i.a∧i.a≤1048576
 b:0≤i.b∧i.b≤1048576
 fl:flo s=(s.tries.getLast?).getD 0
abbrev DoTo(m:Img)(c c':CK)(k:Int): Prop:=zAW Tryz.prog 74 [.ptr 0 0,.d (i64 k)] (CX m c) .top (CX m c')
def zXN: Nat→Code→Code
 |0,c=>c
 |n+1,.seq _ c=>zXN n c
 |_+1,c=>c
def zUW(f:Func): Code:=f.body.getD .skip
theorem zYs{C:Ctx}{Q:Exit→Sl→List Ob→Prop}{σ:Sl}{η:List Ob}{id:Nat}{c:Code}(h:Stop (awp C (.block id c) Q σ η)): awp C (.block id c) Q σ η:=by
 unfold Stop at h;exact h
theorem zGo{C:Ctx}{Q:Exit→Sl→List Ob→Prop}{σ:Sl}{η:List Ob}{id:Nat}{o:Array Oper}{dr:Bool}{c:Code}(h:Stop (awp C ((Code.region id o dr).seq c) Q σ η)): awp C ((Code.region id o dr).seq c) Q σ η:=by
 unfold Stop at h;exact h
theorem zM0{k:Option Nat}{et:Option TypeId}{cs:List SV}: WOb (.bx none none cs) (.bx k et cs):=fun g w id h=>by
 obtain⟨b,e,us,h1,h2,h3,h4,h5,h6,h7,h8⟩:=h
 exact⟨b,e,us,h1,h2,h3,h4,h5,h6,(fun c hc=>by cases hc),(fun t ht=>by cases ht)⟩
abbrev doB(op a b:Int)(s:CS): List Ob:=[.box [.ptr 0 0],.box [.d (i64 op),.d (i64 a),.d (i64 b)],.box [.d (i64 s.of),.d (i64 s.height),.d (zCL s.tries),.d (bl true)],.box [.d (i64 (flo s))]]
abbrev doS(k op:Int)(s:CS): Sl:=[(1,.d (i64 k)),(2,.ptr 4 0),(4,.ptr 5 0),(5,.ptr 6 0),(6,.ptr 7 0),(7,.d (bl (decide (s.of≠-1)))),(8,.clo 120 [6,7,4]),(41,.d (i64 op))]
attribute [local irreducible] zAQ Program.underlying Ylds zBD alex zCA zBi awp zAp zCI zCH zAW zBw zA5 zD4 zB0 zBp zBF zBv zB9 zCE zES zBn zBm zBs JFit
set_option maxHeartbeats 4000000 in
theorem zCn(m:Img)(c:CK){k op a b:Int}{s:CS}(hd:DoAt m c k ⟨op,a,b⟩ s)(wb:World)(St0:Stab)(X:Nat→Prop)(fx:Nat→Option Nat)(Q:Exit→Sl→List Ob→Prop)
  (h:awp ⟨Tryz.prog,321,wb,St0,X,0⟩ (zXN 7 (zUW Tryz.f74)) Q (doS k op s) (CA fx m c++doB op a b s)) :
  awp ⟨Tryz.prog,321,wb,St0,X,0⟩ (zUW Tryz.f74) Q (zF8 [.ptr 0 0,.d (i64 k)] 0) (CA fx m c):=by
 obtain⟨hk0,hat0,hst0,hbig,hlen,hh,htr,ha,hb,hfl⟩:=hd
 have hat:=zBx (f:=enIn) hat0
 have hst:(c.at_.map enCS)[k.toNat]?=some (vD s true):=by rw[List.getElem?_map,hst0];rfl
 have hr0:=(List.getElem?_eq_some_iff.1 hst0).1
 have hr1:0≤k∧k<(c.at_.length:Int):=by omega
 have hr2:c.at_.length≤(c.at_.map enCS).length:=by rw[List.length_map];exact Nat.le_refl _
 dsimp only at ha hb
 clear hat0 hst0
 conv at h=>arg 2;whnf
 conv=>arg 2;whnf
 repeat' first|(refine zGo (id:=2) ?_)|(refine zBT (id:=1) [.y (.ptr 0 0),.y (.ptr 0 0),.y (.ptr 0 (0+0)),.y (.ptr 0 (0+0+1)),.y (.d (.slice (m.code.map enIn))),.y (.d (i64 k)),.y (.rptr [i64 op,i64 a,i64 b]),.y (.d (.agg (List.take 3 [i64 op,i64 a,i64 b]))),.y (.ptr 0 0),.y (.ptr 0 0),.y (.ptr 0 (0+2)),.y (.buf 1 c.at_.length),.y (.d (i64 k)),.y (.bptr 1 k.toNat 0),.y (.d (.agg [i64 s.of,i64 s.height,zCL s.tries,bl true])),.mk ⟨4,[.int .i64 0,.int .i64 0,.int .i64 0],46,[.d (i64 op),.d (i64 a),.d (i64 b)]⟩ (some 17),.mk ⟨5,[.int .i64 0,.int .i64 0,.slice none 0 0,.bool false],151,[.d (i64 s.of),.d (i64 s.height),.d (zCL s.tries),.d (bl true)]⟩ (some 18),.st 15 ⟨4,[.int .i64 0,.int .i64 0,.int .i64 0],46,[.d (i64 op),.d (i64 a),.d (i64 b)]⟩,.st 16 ⟨5,[.int .i64 0,.int .i64 0,.slice none 0 0,.bool false],151,[.d (i64 s.of),.d (i64 s.height),.d (zCL s.tries),.d (bl true)]⟩] (by kernel_rfl) (by kernel_rfl) (.inl (by kernel_rfl)) ⟨⟨rfl,zAG rfl zAw rfl rfl⟩,rfl,⟨rfl,zAN rfl⟩,rfl,⟨rfl,zAC rfl zDA⟩,rfl,⟨rfl,zAC rfl zBE⟩,rfl,⟨rfl,zAG rfl zBk rfl rfl⟩,rfl,⟨rfl,zAJ rfl⟩,rfl,⟨rfl,zCU rfl rfl zB6 hk0 hat rfl (by decide)⟩,rfl,⟨rfl,zBU rfl zA6 rfl⟩,rfl,⟨rfl,zAG rfl zAw rfl rfl⟩,rfl,⟨rfl,zAN rfl⟩,rfl,⟨rfl,zAC rfl zEl⟩,rfl,⟨rfl,zAG rfl zEH rfl rfl⟩,rfl,⟨rfl,zAJ rfl⟩,rfl,⟨rfl,zBY rfl rfl rfl zIJ hr1 hr2⟩,rfl,⟨rfl,zFc rfl zEe rfl hst rfl rfl rfl⟩,rfl,⟨rfl,rfl,rfl,zCK,by kernel_rfl,rfl⟩,rfl,⟨rfl,rfl,rfl,zEd,by kernel_rfl,rfl⟩,rfl,⟨⟨_,_,_,_,_,rfl,rfl,rfl,zA6,rfl⟩,rfl,rfl,rfl,rfl,rfl⟩,⟨⟨_,_,_,_,_,rfl,rfl,rfl,zEe,rfl⟩,rfl,rfl,rfl,rfl,rfl⟩,trivial⟩ ?_)|apply en_n|apply zAK|apply zAA|apply zAF|apply w0|(apply aBox (hd:=rfl) (hro:=rfl);exact rfl;exact rfl)
 refine Stop.go ?_
 refine zDQ (s:=[(1,.d (i64 k)),(2,.ptr 4 0),(4,.ptr 5 0),(5,.ptr 6 0)]) (h:=CA fx m c++[.box [.ptr 0 0],.box [.d (i64 op),.d (i64 a),.d (i64 b)],.box [.d (i64 s.of),.d (i64 s.height),.d (zCL s.tries),.d (bl true)]]) ?_ ?_
 ·exact zAV (zAI rfl (zAI rfl (zAI rfl (zAI rfl zAd)))) (zAP rfl rfl (zAP rfl rfl (zAP rfl rfl (zAP rfl rfl (zH1 rfl zM0 (zH1 rfl zM0 (zH1 rfl zM0 zA7))))))) rfl rfl
 repeat' first|(refine zGo (id:=5) ?_)|(refine zTo (x:=.tmp 27) rfl [(1,.d (i64 k)),(2,.ptr 4 0),(4,.ptr 5 0),(5,.ptr 6 0),(6,.ptr 7 0)] (CA fx m c++[.box [.ptr 0 0],.box [.d (i64 op),.d (i64 a),.d (i64 b)],.box [.d (i64 s.of),.d (i64 s.height),.d (zCL s.tries),.d (bl true)],.box [.d (i64 (flo s))]]) (fun hp=>?_) (fun hp=>?_) ?_)|apply en_n|apply zAK|apply zAA|apply zAF|apply w0|(apply zAG;exact rfl;(first|with_reducible exact zAS|with_reducible exact zAx|with_reducible exact zAw|with_reducible exact zA0|with_reducible exact zAf|with_reducible exact zA1|with_reducible exact zAg);exact rfl;exact rfl)|(apply zAl;exact rfl;exact rfl;exact rfl;(first|with_reducible exact zAS|with_reducible exact zAg|with_reducible exact zAx);exact rfl;exact rfl;exact rfl;exact rfl)|(apply aI (hd:=rfl);(first|exact zCw rfl|exact zDn rfl rfl rfl|exact Co_nn rfl);exact rfl;(with_reducible exact zBK);exact fun _=>rfl;rotate_left;intro v hv;rotate_right)|(apply zDs (hd:=rfl) (hro:=rfl);(with_reducible exact zUn))|apply ay (hd:=rfl)|(apply zC3;exact rfl;(with_reducible exact zAS))|(apply zBZ;exact rfl;(with_reducible exact zCY))|exact zH0 rfl rfl|(apply zDX;exact rfl;exact rfl)|(apply zAC;exact rfl;(with_reducible exact zBf))|(refine w0' ?_)|apply zAU
 ·omega
 ·omega
 ·refine jfit (zAV (zAI rfl (zAI rfl (zAI rfl (zAI rfl (zAI rfl zAd))))) (zAP rfl rfl (zAP rfl rfl (zAP rfl rfl (zAP rfl rfl (zAP rfl rfl (zAP rfl rfl (zAP rfl rfl (zAP rfl ?_ zA7)))))))) rfl rfl)
  have e:((s.tries.length:Int)-1).toNat=s.tries.length-1:=by omega
  rw[e,←List.getLast?_eq_getElem?]at hv
  have e2:flo s=v:=by unfold flo;rw[hv];rfl
  rw[e2];rfl
 ·refine jfit (zAV (zAI rfl (zAI rfl (zAI rfl (zAI rfl (zAI rfl zAd))))) (zAP rfl rfl (zAP rfl rfl (zAP rfl rfl (zAP rfl rfl (zAP rfl rfl (zAP rfl rfl (zAP rfl rfl (zAP rfl ?_ zA7)))))))) rfl rfl)
  have e:s.tries=[]:=List.length_eq_zero_iff.1 (by omega)
  have e2:flo s=0:=by unfold flo;rw[e];rfl
  rw[e2];rfl
 refine Stop.go ?_
 repeat' first|(refine zYs ?_)|apply en_n|apply zAK|apply zAA|apply zAF|apply w0|(apply zAG;exact rfl;(first|with_reducible exact zAS|with_reducible exact zAx|with_reducible exact zAw|with_reducible exact zA0|with_reducible exact zAf|with_reducible exact zA1|with_reducible exact zAg);exact rfl;exact rfl)|apply ay (hd:=rfl)|exact zAD rfl|exact zHz rfl rfl|exact zH9 rfl|(apply zAC;exact rfl;(with_reducible first|exact zBJ|exact zCz))|exact zJh rfl
 refine Stop.go ?_
 exact zDQ (zAV (zAI rfl (zAI rfl (zAI rfl (zAI rfl (zAI rfl (zAI rfl (zAI rfl (zAI rfl zAd)))))))) (zB2 _) rfl rfl) h
end Go.Proofs.YtcagoomibpcdlaaGreatDoor
