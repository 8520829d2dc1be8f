/- Parts of the proof. -/
import Derived.Test.YtcagoomibpcdlaaGreatDoorMAP
set_option maxHeartbeats 16000000
namespace Go.Proofs.YtcagoomibpcdlaaGreatDoor
open _root_.Go.Proofs.Tryz
open Go.Sx Go.Vm
attribute [local irreducible] zAO Program.underlying Ylds zBE alex zB0 zBk awp zAg zB9 zB8 zAU zBj zA6 zBl zBn zBC zBq zBz zB7 zBm zBc zBe
structure Top2(r:Raw)(f w:Nat): Prop where
 two:2<=r.stk.length
 f:r.stk[r.stk.length-1-1]?=some f
 w:r.stk[r.stk.length-1-0]?=some w
 le:r.stk.length<=1048576
theorem zVI(m:Img)(r:Raw)(b:Bool){f w:Nat}(ht:Top2 r f w)(hO:zAU prog 52 [.ptr 0 0,.d (w64 f),.d (i64 2)] (MX m r) (.d (bl false)) (MX m { r with fin:=4 })): zAU prog 44 [.ptr 0 0,.d (bl b)] (MX m r) .top (MX m { r with fin:=4 }):=by
 obtain⟨h2,hf,hw,hl⟩:=ht
 have hT1:=zB4 m r (k:=1) (by omega) hf hl
 have hT0:=zB4 m r (k:=0) (by omega) hw hl
 refine zA7 func44 rfl ntmps44 results44 rfl ?_
 intro wb St0 X fx
 repeat' first|apply en_n|apply zAG|apply zAA|apply zAD|apply w0|(refine zAX [0,1,2,3,4,5,6,7,8] [] rfl rfl zAw (hT1) rfl (SArgs_all rfl) rfl (by decide) rfl rfl rfl rfl)|(refine zAX [0,1,2,3,4,5,6,7,8] [] rfl rfl zAw (hT0) rfl (SArgs_all rfl) rfl (by decide) rfl rfl rfl rfl)|(refine aVM zCU (hO) (SArgs_all rfl) rfl rfl ?_)|apply ay (hd:=rfl)|exact zAF rfl|exact zAB rfl|exact zBS rfl|exact zAH rfl|refine zAI rfl ?_|apply zAQ|apply en_r
 all_goals exact zDW rfl
theorem zQS(m:Img)(r:Raw){f w:Nat}(ht:Top2 r f w)(hc:r.cls.length=1000)(hO:zA6 prog 52 [.ptr 0 0,.d (w64 f),.d (i64 2)] (MX m r) (bl true)): zAU prog 44 [.ptr 0 0,.d (bl false)] (MX m r) .top (MX m { r with fin:=6 }):=by
 obtain⟨h2,hf,hw,hl⟩:=ht
 have hT1:=zB4 m r (k:=1) (by omega) hf hl
 have hT0:=zB4 m r (k:=0) (by omega) hw hl
 have hS:=zEx m r 6
 have hcl:(r.cls.length:Int)=1000:=by omega
 refine zA7 func44 rfl ntmps44 results44 rfl ?_
 intro wb St0 X fx
 repeat' first|apply en_n|apply zAG|apply zAA|apply zAD|apply w0|exact zAi rfl rfl|exact zAL rfl|(refine zAX [0,1,2,3,4,5,6,7,8] [] rfl rfl zAw (hT1) rfl (SArgs_all rfl) rfl (by decide) rfl rfl rfl rfl)|(refine zAX [0,1,2,3,4,5,6,7,8] [] rfl rfl zAw (hT0) rfl (SArgs_all rfl) rfl (by decide) rfl rfl rfl rfl)|(refine zAX [0,1,2,3,4,5,6,7,8] [] rfl rfl zCU (hO) rfl (SArgs_all rfl) rfl (by decide) rfl rfl rfl rfl)|(refine aVM zDL (hS) (SArgs_all rfl) rfl rfl ?_)|apply ay (hd:=rfl)|exact zAF rfl|exact zAB rfl|exact zBS rfl|exact zAZ rfl rfl|exact zA3 rfl zGt|exact zAH rfl|exact zAC rfl zDg|exact zAE rfl zCG rfl rfl|refine w1 rfl rfl ?_|refine zAI rfl ?_|refine zAJ rfl ?_|apply zAR|apply zAQ|apply en_r
 all_goals exact zDW rfl
theorem zQR(m:Img)(r:Raw){f w:Nat}{tag n:Int}(ht:Top2 r f w)(hb:0<=r.c.base/\r.c.base<=r.stk.length)(hB:BlkQ r f 2 tag n true): zAU prog 44 [.ptr 0 0,.d (bl true)] (MX m r) .top (MX m { r with stk:=r.stk.take r.c.base.toNat++[w],c:=⟨tag,r.c.base,f⟩ }):=by
 obtain⟨h2,hf,hw,hl⟩:=ht
 have hT1:=zB4 m r (k:=1) (by omega) hf hl
 have hT0:=zB4 m r (k:=0) (by omega) hw hl
 have hO:=zFU m r hB
 have l5:(r.stk.take r.c.base.toNat).length=r.c.base.toNat:=by rw[qAK];omega
 have hP:=zHQ m { r with stk:=r.stk.take r.c.base.toNat } (w:=w) (by show (List.take _ _).length<=_;omega)
 refine zA7 func44 rfl ntmps44 results44 rfl ?_
 intro wb St0 X fx
 repeat' first|(refine zBT (id:=9) (s:=[(0,.ptr 0 0),(4,.d (w64 f)),(5,.d (w64 w))]) (h:=MA fx m { r with stk:=r.stk.take r.c.base.toNat }) (zAS (Le_all rfl) (zEp rfl rfl l5 rfl rfl rfl rfl rfl rfl rfl rfl rfl (zNH _ _) (zBf rfl) (zBf rfl) rfl) rfl rfl) ?_)|apply en_n|apply zAG|apply zAA|apply zAD|apply w0|refine k1u (hd:=rfl) rfl rfl ?_|exact zAL rfl|(refine zBs (by kernel_rfl) ?_;apply zAj;exact rfl;exact rfl;exact rfl;(first|with_reducible exact zBJ|with_reducible exact zCT|with_reducible exact zCG|with_reducible exact zCD|with_reducible exact zCV|with_reducible exact zBU|with_reducible exact zAP);exact rfl;exact rfl;exact rfl;exact rfl)|(apply zF1;exact rfl;(first|with_reducible exact zD1|with_reducible exact zDs|with_reducible exact zDr);exact rfl;omega;exact⟨_,_,_,_,rfl,(by first|exact qA1 (zAm _).symm|exact qA1 (qAC _).symm)⟩)|(refine zAX [0,1,2,3,4,5,6,7,8] [] rfl rfl zAw (hT1) rfl (SArgs_all rfl) rfl (by decide) rfl rfl rfl rfl)|(refine zAX [0,1,2,3,4,5,6,7,8] [] rfl rfl zAw (hT0) rfl (SArgs_all rfl) rfl (by decide) rfl rfl rfl rfl)|(refine zAX [0,1,2,3,4,5,6,7,8] [] rfl rfl zCU (hO) rfl (SArgs_all rfl) rfl (by decide) rfl rfl rfl rfl)|(refine zAX [1,2,3,4] [] rfl rfl zCk (hB) rfl (SArgs_all rfl) rfl (by decide) rfl rfl rfl rfl)|(refine aVM zEH (hP) (SArgs_all rfl) rfl rfl ?_)|apply ay (hd:=rfl)|exact zAF rfl|exact zAB rfl|exact zBS rfl|exact zAV rfl rfl|exact zAk rfl rfl|exact zAH rfl|(apply zAC;exact rfl;(with_reducible first|exact zAe|exact zIG|exact zC9|exact zBb|exact zCn|exact zAc))|(apply zAE;exact rfl;(with_reducible first|exact zBw|exact zBJ|exact zAP);exact rfl;exact rfl)|(refine w0' ?_)|(apply zAj;exact rfl;exact rfl;exact rfl;(with_reducible first|exact zBU|exact zAP);exact rfl;exact rfl;exact rfl;exact rfl)|refine zAI rfl ?_|refine zAJ rfl ?_|apply zAR|refine zAf (by kernel_rfl) (by kernel_rfl) ?_
 all_goals first|omega|skip
 all_goals exact zCl ⟨rfl,zAS Le_nil (zID rfl rfl rfl rfl rfl rfl (zBf rfl) (zBf rfl) (zBf rfl) rfl) rfl rfl⟩
theorem zX6(l:List RCl)(c:RCl): l.map enCl++[.agg [i64 c.at_,i64 c.base,w64 c.fn]]=(l++[c]).map enCl:=by rw[qAl];rfl
theorem zQT(m:Img)(r:Raw){f w:Nat}{tag n:Int}(ht:Top2 r f w)(hc:r.cls.length<1000)(hB:BlkQ r f 2 tag n true): zAU prog 44 [.ptr 0 0,.d (bl false)] (MX m r) .top (MX m { r with stk:=r.stk.take (r.stk.length-2)++[w],cls:=r.cls++[r.c],c:=⟨tag,(r.stk.length:Int)-2,f⟩ }):=by
 obtain⟨h2,hf,hw,hl⟩:=ht
 have hT1:=zB4 m r (k:=1) (by omega) hf hl
 have hT0:=zB4 m r (k:=0) (by omega) hw hl
 have hO:=zFU m r hB
 have hT:=zIu m r (n:=2) hl h2
 have l5:(r.stk.take (r.stk.length-2)).length=r.stk.length-2:=by rw[qAK];omega
 have hP:=zHQ m { r with stk:=r.stk.take (r.stk.length-2),cls:=r.cls++[r.c],c:=⟨r.c.at_,(r.stk.length:Int)-2,r.c.fn⟩ } (w:=w) (by show (List.take _ _).length<=_;omega)
 have hcl:¬(r.cls.length:Int)=1000:=by omega
 have ez:(((r.stk.take (r.stk.length-2)).length:Nat):Int)=(r.stk.length:Int)-2:=by omega
 refine zA7 func44 rfl ntmps44 results44 rfl ?_
 intro wb St0 X fx
 repeat' first|(refine zKA (rid:=7) [.ptr 0 0,.ptr 0 0,.ptr 0 0,.ptr 0 (0+7),.buf 6 r.cls.length,.ptr 0 0,.ptr 0 0,.ptr 0 (0+4),.d (.agg [i64 r.c.at_,i64 r.c.base,w64 r.c.fn]),.d (.slice [.agg [i64 r.c.at_,i64 r.c.base,w64 r.c.fn]]),.top] 10 6 (by kernel_rfl) (by kernel_rfl) rfl rfl rfl (.inr (by kernel_rfl)) ⟨.inr ⟨⟨rfl,zAH rfl⟩,rfl,rfl,.inr ⟨rfl,rfl,zAH rfl⟩⟩,⟨.inr ⟨⟨rfl,zAH rfl⟩,rfl,rfl,.inl (by kernel_rfl)⟩,⟨.inr ⟨⟨rfl,zAL rfl⟩,rfl,rfl,.inl (by kernel_rfl)⟩,⟨.inr ⟨⟨rfl,zAC rfl zDg⟩,rfl,rfl,.inl (by kernel_rfl)⟩,⟨.inr ⟨⟨rfl,zAE rfl zCG rfl rfl⟩,rfl,rfl,.inl (by kernel_rfl)⟩,⟨.inr ⟨⟨rfl,zAH rfl⟩,rfl,rfl,.inl (by kernel_rfl)⟩,⟨.inr ⟨⟨rfl,zAL rfl⟩,rfl,rfl,.inl (by kernel_rfl)⟩,⟨.inr ⟨⟨rfl,zAC rfl zAc⟩,rfl,rfl,.inl (by kernel_rfl)⟩,⟨.inr ⟨⟨rfl,zBA rfl zCT rfl rfl rfl⟩,rfl,rfl,.inl (by kernel_rfl)⟩,⟨.inr ⟨⟨rfl,zCC zLu zEa zTP rfl rfl (zAY rfl zAM) rfl⟩,rfl,rfl,.inl (by kernel_rfl)⟩,⟨.inl rfl,trivial⟩⟩⟩⟩⟩⟩⟩⟩⟩⟩⟩ rfl rfl rfl (qAC _).symm rfl zLu zEa zTV zTc rfl rfl (zDS rfl) (by simp only[qAP,qAp];omega) ?_)|(refine zBT (id:=9) (s:=[(0,.ptr 0 0),(4,.d (w64 f)),(5,.d (w64 w))]) (h:=MA fx m { r with stk:=r.stk.take (r.stk.length-2),cls:=r.cls++[r.c],c:=⟨r.c.at_,(r.stk.length:Int)-2,r.c.fn⟩ }) (zAS (Le_all rfl) (zEp rfl (by rw[<-ez];rfl) rfl qAD rfl rfl rfl rfl rfl rfl rfl rfl (zBf rfl) (zBf (congrArg (Ob.buf true _ 3) (zX6 r.cls r.c).symm)) (zBf rfl) rfl) rfl rfl) ?_)|apply en_n|apply zAG|apply zAA|apply zAD|apply w0|exact zAn rfl rfl|exact zAL rfl|(refine zBs (by kernel_rfl) ?_;apply zAj;exact rfl;exact rfl;exact rfl;(first|with_reducible exact zBJ|with_reducible exact zCT|with_reducible exact zCG|with_reducible exact zCD|with_reducible exact zCV|with_reducible exact zBU|with_reducible exact zAP);exact rfl;exact rfl;exact rfl;exact rfl)|(refine zAX [0,1,2,3,4,5,6,7,8] [] rfl rfl zAw (hT1) rfl (SArgs_all rfl) rfl (by decide) rfl rfl rfl rfl)|(refine zAX [0,1,2,3,4,5,6,7,8] [] rfl rfl zAw (hT0) rfl (SArgs_all rfl) rfl (by decide) rfl rfl rfl rfl)|(refine zAX [0,1,2,3,4,5,6,7,8] [] rfl rfl zCU (hO) rfl (SArgs_all rfl) rfl (by decide) rfl rfl rfl rfl)|(refine zAX [1,2,3,4] [] rfl rfl zCk (hB) rfl (SArgs_all rfl) rfl (by decide) rfl rfl rfl rfl)|(refine aVM zG3 (hT) (SArgs_all rfl) rfl rfl ?_)|(refine aVM zEH (hP) (SArgs_all rfl) rfl rfl ?_)|apply ay (hd:=rfl)|exact zAF rfl|exact zAB rfl|exact zBS rfl|exact zAZ rfl rfl|exact zAk rfl rfl|(apply zA3;exact rfl;(with_reducible first|exact zCq|exact zGt))|exact zAH rfl|(apply zAC;exact rfl;(with_reducible first|exact zAe|exact zIG|exact zC9|exact zBb|exact zCn|exact zAc|exact zDg))|(apply zAE;exact rfl;(with_reducible first|exact zBw|exact zBJ|exact zCG);exact rfl;exact rfl)|refine w1 rfl rfl ?_|(refine w0' ?_)|(apply zAj;exact rfl;exact rfl;exact rfl;(with_reducible first|exact zBU|exact zAP);exact rfl;exact rfl;exact rfl;exact rfl)|refine zAJ rfl ?_|apply zAR
 all_goals first|omega|skip
 all_goals exact zCl ⟨rfl,zAS Le_nil (zID rfl rfl rfl rfl rfl rfl (zBf rfl) (zBf rfl) (zBf rfl) rfl) rfl rfl⟩
end Go.Proofs.YtcagoomibpcdlaaGreatDoor
