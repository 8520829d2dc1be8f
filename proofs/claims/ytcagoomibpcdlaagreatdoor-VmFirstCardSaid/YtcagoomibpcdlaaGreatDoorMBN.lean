/- Parts of the proof. -/
import Derived.Test.YtcagoomibpcdlaaGreatDoorMAY
import Derived.Test.YtcagoomibpcdlaaGreatDoorMBM
set_option maxHeartbeats 16000000
namespace Go.Proofs.YtcagoomibpcdlaaGreatDoor
open _root_.Go.Proofs.Tryz
open Go.Sx Go.Vm
def flo(s:CS): Int:=(s.tries.getLast?).getD 0
structure DoAt(m:Img)(c:CK)(k:Int)(i:Ins)(s:CS): Prop where
 k0:0<=k
 code:m.code[k.toNat]?=some i
 st:c.at_[k.toNat]?=some (some s)
 big:m.code.length<=1048576
 len:c.at_.length=m.code.length
 hgt:0<=s.height/\s.height<=2000000
 tr:s.tries.length<=2000000
 a:0<=i.a/\i.a<=1048576
 b:0<=i.b/\i.b<=1048576
 fl:flo s=(s.tries.getLast?).getD 0
abbrev DoTo(m:Img)(c c':CK)(k:Int): Prop:=zAU prog 74 [.ptr 0 0,.d (i64 k)] (CX m c) .top (CX m c')
def zYD: Nat->Code->Code
 |0,c=>c
 |n+1,.seq _ c=>zYD n c
 |_+1,c=>c
def zVF(f:Func): Code:=f.body.getD .skip
theorem zZd{C:Ctx}{Q:Exit->Sl->List Ob->Prop}{σ:Sl}{η:List Ob}{id:Nat}{c:Code}(h:Stop (awp C (.block id c) Q σ η)): awp C (.block id c) Q σ η:=by
 unfold Stop at h;exact h
theorem zEj{C:Ctx}{Q:Exit->Sl->List Ob->Prop}{σ:Sl}{η:List Ob}{id:Nat}{o:Array Oper}{dr:Bool}{c:Code}(h:Stop (awp C ((Code.region id o dr).seq c) Q σ η)): awp C ((Code.region id o dr).seq c) Q σ η:=by
 unfold Stop at h;exact h
theorem zNV{k:Option Nat}{et:Option TypeId}{cs:List SV}: WOb (.bx none none cs) (.bx k et cs):=fun g w id h=>by
 obtain⟨b,e,us,h1,h2,h3,h4,h5,h6,h7,h8⟩:=h
 exact⟨b,e,us,h1,h2,h3,h4,h5,h6,(fun c hc=>by cases hc),(fun t ht=>by cases ht)⟩
abbrev doB(op a b:Int)(s:CS): List Ob:=[.box [.ptr 0 0],.box [.d (i64 op),.d (i64 a),.d (i64 b)],.box [.d (i64 s.of),.d (i64 s.height),.d (zCK s.tries),.d (bl true)],.box [.d (i64 (flo s))]]
abbrev doS(k op:Int)(s:CS): Sl:=[(1,.d (i64 k)),(2,.ptr 4 0),(4,.ptr 5 0),(5,.ptr 6 0),(6,.ptr 7 0),(7,.d (bl (decide (s.of≠-1)))),(8,.clo 120 [6,7,4]),(41,.d (i64 op))]
attribute [local irreducible] zAN Program.underlying Ylds zA9 alex zB3 zBf awp zAi zCC zCB zAU zBl zAz zDt zBq zBj zBB zBr zB2 zB8 zD7 zBi zBd zBg JFit
theorem zCu(m:Img)(c:CK){k op a b:Int}{s:CS}(hd:DoAt m c k ⟨op,a,b⟩ s)(wb:World)(St0:Stab)(X:Nat->Prop)(fx:Nat->Option Nat)(Q:Exit->Sl->List Ob->Prop)
  (h:awp ⟨prog,321,wb,St0,X,0⟩ (zYD 7 (zVF Tryz.f74)) Q (doS k op s) (CA fx m c++doB op a b s)) :
  awp ⟨prog,321,wb,St0,X,0⟩ (zVF Tryz.f74) Q (zGT [.ptr 0 0,.d (i64 k)] 0) (CA fx m c):=by
 obtain⟨hk0,hat0,hst0,hbig,hlen,hh,htr,ha,hb,hfl⟩:=hd
 have hat:=zBz (f:=enIn) hat0
 have hst:(c.at_.map enCS)[k.toNat]?=some (vD s true):=by rw[qAL,hst0];rfl
 have hr0:=(qAA.1 hst0).1
 have hr1:0<=k/\k<(c.at_.length:Int):=by omega
 have hr2:c.at_.length<=(c.at_.map enCS).length:=by rw[qAC];exact qAN _
 dsimp only at ha hb
 clear hat0 hst0
 conv at h=>arg 2;whnf
 conv=>arg 2;whnf
 repeat' first|(refine zEj (id:=2) ?_)|(refine zBR (id:=1) [.y (.ptr 0 0),.y (.ptr 0 0),.y (.ptr 0 (0+0)),.y (.ptr 0 (0+0+1)),.y (.d (.slice (m.code.map enIn))),.y (.d (i64 k)),.y (.rptr [i64 op,i64 a,i64 b]),.y (.d (.agg (List.take 3 [i64 op,i64 a,i64 b]))),.y (.ptr 0 0),.y (.ptr 0 0),.y (.ptr 0 (0+2)),.y (.buf 1 c.at_.length),.y (.d (i64 k)),.y (.bptr 1 k.toNat 0),.y (.d (.agg [i64 s.of,i64 s.height,zCK s.tries,bl true])),.mk ⟨4,[.int .i64 0,.int .i64 0,.int .i64 0],46,[.d (i64 op),.d (i64 a),.d (i64 b)]⟩ (some 17),.mk ⟨5,[.int .i64 0,.int .i64 0,.slice none 0 0,.bool false],151,[.d (i64 s.of),.d (i64 s.height),.d (zCK s.tries),.d (bl true)]⟩ (some 18),.st 15 ⟨4,[.int .i64 0,.int .i64 0,.int .i64 0],46,[.d (i64 op),.d (i64 a),.d (i64 b)]⟩,.st 16 ⟨5,[.int .i64 0,.int .i64 0,.slice none 0 0,.bool false],151,[.d (i64 s.of),.d (i64 s.height),.d (zCK s.tries),.d (bl true)]⟩] (by kernel_rfl) (by kernel_rfl) (.inl (by kernel_rfl)) ⟨⟨rfl,zAE rfl zAu rfl rfl⟩,rfl,⟨rfl,zAK rfl⟩,rfl,⟨rfl,zAC rfl zDJ⟩,rfl,⟨rfl,zAC rfl zBD⟩,rfl,⟨rfl,zAE rfl zBo rfl rfl⟩,rfl,⟨rfl,zAF rfl⟩,rfl,⟨rfl,zCU rfl rfl zBh hk0 hat rfl (by decide)⟩,rfl,⟨rfl,zBH rfl zA3 rfl⟩,rfl,⟨rfl,zAE rfl zAu rfl rfl⟩,rfl,⟨rfl,zAK rfl⟩,rfl,⟨rfl,zAC rfl zEy⟩,rfl,⟨rfl,zAE rfl zER rfl rfl⟩,rfl,⟨rfl,zAF rfl⟩,rfl,⟨rfl,zBZ rfl rfl rfl zIc hr1 hr2⟩,rfl,⟨rfl,zFw rfl zEo rfl hst rfl rfl rfl⟩,rfl,⟨rfl,rfl,rfl,zBw,by kernel_rfl,rfl⟩,rfl,⟨rfl,rfl,rfl,zEn,by kernel_rfl,rfl⟩,rfl,⟨⟨_,_,_,_,_,rfl,rfl,rfl,zA3,rfl⟩,rfl,rfl,rfl,rfl,rfl⟩,⟨⟨_,_,_,_,_,rfl,rfl,rfl,zEo,rfl⟩,rfl,rfl,rfl,rfl,rfl⟩,trivial⟩ ?_)|apply en_n|apply zAH|apply zAA|apply zAD|apply w0|(apply aBox (hd:=rfl) (hro:=rfl);exact rfl;exact rfl)
 refine Stop.go ?_
 refine zDa (s:=[(1,.d (i64 k)),(2,.ptr 4 0),(4,.ptr 5 0),(5,.ptr 6 0)]) (h:=CA fx m c++[.box [.ptr 0 0],.box [.d (i64 op),.d (i64 a),.d (i64 b)],.box [.d (i64 s.of),.d (i64 s.height),.d (zCK s.tries),.d (bl true)]]) ?_ ?_
 ·exact zAT (Le_all rfl) (zAO rfl rfl (zAO rfl rfl (zAO rfl rfl (zAO rfl rfl (zII rfl zNV (zII rfl zNV (zII rfl zNV zAt))))))) rfl rfl
 repeat' first|(refine zEj (id:=5) ?_)|(refine zUW (x:=.tmp 27) rfl [(1,.d (i64 k)),(2,.ptr 4 0),(4,.ptr 5 0),(5,.ptr 6 0),(6,.ptr 7 0)] (CA fx m c++[.box [.ptr 0 0],.box [.d (i64 op),.d (i64 a),.d (i64 b)],.box [.d (i64 s.of),.d (i64 s.height),.d (zCK s.tries),.d (bl true)],.box [.d (i64 (flo s))]]) (fun hp=>?_) (fun hp=>?_) ?_)|apply en_n|apply zAH|apply zAA|apply zAD|apply w0|(apply zAE;exact rfl;(first|with_reducible exact zAP|with_reducible exact zAw|with_reducible exact zAu|with_reducible exact zAv|with_reducible exact zAd|with_reducible exact zA0|with_reducible exact zAc);exact rfl;exact rfl)|(apply zAh;exact rfl;exact rfl;exact rfl;(first|with_reducible exact zAP|with_reducible exact zAc|with_reducible exact zAw);exact rfl;exact rfl;exact rfl;exact rfl)|(apply aI (hd:=rfl);(first|exact zCW rfl|exact zC3 rfl rfl rfl|exact Co_nn rfl);exact rfl;(with_reducible exact zBJ);exact fun _=>rfl;rotate_left;intro v hv;rotate_right)|(apply zDI (hd:=rfl) (hro:=rfl);(with_reducible exact zVb))|apply ay (hd:=rfl)|exact zCb rfl zAP|exact zBI rfl zCc|exact zGG rfl rfl|refine zDb rfl rfl ?_|exact zAC rfl zBm|(refine w0' ?_)|apply zAS
 ·omega
 ·omega
 ·refine jfit (zAT (Le_all rfl) (zAO rfl rfl (zAO rfl rfl (zAO rfl rfl (zAO rfl rfl (zAO rfl rfl (zAO rfl rfl (zAO rfl rfl (zAO rfl ?_ zAt)))))))) rfl rfl)
  have e:((s.tries.length:Int)-1).toNat=s.tries.length-1:=by omega
  rw[e,<-qBc]at hv
  have e2:flo s=v:=by unfold flo;rw[hv];rfl
  rw[e2];rfl
 ·refine jfit (zAT (Le_all rfl) (zAO rfl rfl (zAO rfl rfl (zAO rfl rfl (zAO rfl rfl (zAO rfl rfl (zAO rfl rfl (zAO rfl rfl (zAO rfl ?_ zAt)))))))) rfl rfl)
  have e:s.tries=[]:=List.length_eq_zero_iff.1 (by omega)
  have e2:flo s=0:=by unfold flo;rw[e];rfl
  rw[e2];rfl
 refine Stop.go ?_
 repeat' first|(refine zZd ?_)|apply en_n|apply zAH|apply zAA|apply zAD|apply w0|(apply zAE;exact rfl;(first|with_reducible exact zAP|with_reducible exact zAw|with_reducible exact zAu|with_reducible exact zAv|with_reducible exact zAd|with_reducible exact zA0|with_reducible exact zAc);exact rfl;exact rfl)|apply ay (hd:=rfl)|exact zAB rfl|exact zIG rfl rfl|exact zIQ rfl|(apply zAC;exact rfl;(with_reducible first|exact zBA|exact zC5))|exact zJ3 rfl
 refine Stop.go ?_
 exact zDa (zAT (Le_all rfl) (zB5 _) rfl rfl) h
end Go.Proofs.YtcagoomibpcdlaaGreatDoor
