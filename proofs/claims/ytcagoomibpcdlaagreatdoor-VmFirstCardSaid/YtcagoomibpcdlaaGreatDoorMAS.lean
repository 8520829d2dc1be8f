/- Parts of the proof. -/
import Derived.Test.YtcagoomibpcdlaaGreatDoorMAR
set_option maxHeartbeats 16000000
namespace Go.Proofs.YtcagoomibpcdlaaGreatDoor
open _root_.Go.Proofs.Tryz
open Go.Sx Go.Vm
attribute [local irreducible] zAN Program.underlying Ylds zA9 alex zB3 zBf awp zAi zCC zCB zAU zBl zAz zBq zBj zBB zBr zB2 zB8 zBi zBd zBg
structure Top2(r:Raw)(f w:Nat): Prop where
 two:2<=r.stk.length
 f:r.stk[r.stk.length-1-1]?=some f
 w:r.stk[r.stk.length-1-0]?=some w
 le:r.stk.length<=1048576
theorem zUa(m:Img)(r:Raw)(b:Bool){f w:Nat}(ht:Top2 r f w)(hO:zAU prog 52 [.ptr 0 0,.d (w64 f),.d (i64 2)] (MX m r) (.d (bl false)) (MX m { r with fin:=4 })): zAU prog 44 [.ptr 0 0,.d (bl b)] (MX m r) .top (MX m { r with fin:=4 }):=by
 obtain⟨h2,hf,hw,hl⟩:=ht
 have hT1:=zBt m r (k:=1) (by omega) hf hl
 have hT0:=zBt m r (k:=0) (by omega) hw hl
 refine zAx func44 rfl ntmps44 results44 rfl ?_
 intro wb St0 X fx
 repeat' first|apply en_n|apply zAH|apply zAA|apply zAD|apply w0|(refine zAW [0,1,2,3,4,5,6,7,8] [] rfl rfl zAr (hT1) rfl (SArgs_all rfl) rfl (by decide) rfl rfl rfl rfl)|(refine zAW [0,1,2,3,4,5,6,7,8] [] rfl rfl zAr (hT0) rfl (SArgs_all rfl) rfl (by decide) rfl rfl rfl rfl)|(refine aVM zCP (hO) (SArgs_all rfl) rfl rfl ?_)|apply ay (hd:=rfl)|exact zAF rfl|exact zAB rfl|exact zBX rfl|exact zAG rfl|refine zAI rfl ?_|apply zAQ|apply en_r
 all_goals exact zDT rfl
theorem zPo(m:Img)(r:Raw){f w:Nat}(ht:Top2 r f w)(hc:r.cls.length=1000)(hO:zAz prog 52 [.ptr 0 0,.d (w64 f),.d (i64 2)] (MX m r) (bl true)): zAU prog 44 [.ptr 0 0,.d (bl false)] (MX m r) .top (MX m { r with fin:=6 }):=by
 obtain⟨h2,hf,hw,hl⟩:=ht
 have hT1:=zBt m r (k:=1) (by omega) hf hl
 have hT0:=zBt m r (k:=0) (by omega) hw hl
 have hS:=zEq m r 6
 have hcl:(r.cls.length:Int)=1000:=by omega
 refine zAx func44 rfl ntmps44 results44 rfl ?_
 intro wb St0 X fx
 repeat' first|apply en_n|apply zAH|apply zAA|apply zAD|apply w0|exact zAk rfl rfl|exact zAK rfl|(refine zAW [0,1,2,3,4,5,6,7,8] [] rfl rfl zAr (hT1) rfl (SArgs_all rfl) rfl (by decide) rfl rfl rfl rfl)|(refine zAW [0,1,2,3,4,5,6,7,8] [] rfl rfl zAr (hT0) rfl (SArgs_all rfl) rfl (by decide) rfl rfl rfl rfl)|(refine zAW [0,1,2,3,4,5,6,7,8] [] rfl rfl zCP (hO) rfl (SArgs_all rfl) rfl (by decide) rfl rfl rfl rfl)|(refine aVM zDK (hS) (SArgs_all rfl) rfl rfl ?_)|apply ay (hd:=rfl)|exact zAF rfl|exact zAB rfl|exact zBX rfl|exact zAa rfl rfl|exact zA5 rfl zGl|exact zAG rfl|exact zAC rfl zDf|exact zAE rfl zB7 rfl rfl|refine w1 rfl rfl ?_|refine zAI rfl ?_|refine zAJ rfl ?_|apply zAS|apply zAQ|apply en_r
 all_goals exact zDT rfl
theorem zPn(m:Img)(r:Raw){f w:Nat}{tag n:Int}(ht:Top2 r f w)(hb:0<=r.c.base/\r.c.base<=r.stk.length)(hB:BlkQ r f 2 tag n true): zAU prog 44 [.ptr 0 0,.d (bl true)] (MX m r) .top (MX m { r with stk:=r.stk.take r.c.base.toNat++[w],c:=⟨tag,r.c.base,f⟩ }):=by
 obtain⟨h2,hf,hw,hl⟩:=ht
 have hT1:=zBt m r (k:=1) (by omega) hf hl
 have hT0:=zBt m r (k:=0) (by omega) hw hl
 have hO:=zFQ m r hB
 have l5:(r.stk.take r.c.base.toNat).length=r.c.base.toNat:=by rw[qAJ];omega
 have hP:=zHD m { r with stk:=r.stk.take r.c.base.toNat } (w:=w) (by show (List.take _ _).length<=_;omega)
 refine zAx func44 rfl ntmps44 results44 rfl ?_
 intro wb St0 X fx
 repeat' first|(refine zBN (id:=9) (s:=[(0,.ptr 0 0),(4,.d (w64 f)),(5,.d (w64 w))]) (h:=MA fx m { r with stk:=r.stk.take r.c.base.toNat }) (zAT (Le_all rfl) (zEi rfl rfl l5 rfl rfl rfl rfl rfl rfl rfl rfl rfl (zMj _ _) (zBU rfl) (zBU rfl) rfl) rfl rfl) ?_)|apply en_n|apply zAH|apply zAA|apply zAD|apply w0|(apply k1u (hd:=rfl);exact rfl;exact rfl)|exact zAK rfl|(refine zBv (by kernel_rfl) ?_;apply zAh;exact rfl;exact rfl;exact rfl;(first|with_reducible exact zBC|with_reducible exact zCO|with_reducible exact zB7|with_reducible exact zB4|with_reducible exact zCR|with_reducible exact zBO|with_reducible exact zAP);exact rfl;exact rfl;exact rfl;exact rfl)|(apply zFv;exact rfl;(first|with_reducible exact zDw|with_reducible exact zDq|with_reducible exact zDp);exact rfl;omega;exact⟨_,_,_,_,rfl,(by first|exact qA0 (zAl _).symm|exact qA0 (qAC _).symm)⟩)|(refine zAW [0,1,2,3,4,5,6,7,8] [] rfl rfl zAr (hT1) rfl (SArgs_all rfl) rfl (by decide) rfl rfl rfl rfl)|(refine zAW [0,1,2,3,4,5,6,7,8] [] rfl rfl zAr (hT0) rfl (SArgs_all rfl) rfl (by decide) rfl rfl rfl rfl)|(refine zAW [0,1,2,3,4,5,6,7,8] [] rfl rfl zCP (hO) rfl (SArgs_all rfl) rfl (by decide) rfl rfl rfl rfl)|(refine zAW [1,2,3,4] [] rfl rfl zCi (hB) rfl (SArgs_all rfl) rfl (by decide) rfl rfl rfl rfl)|(refine aVM zEF (hP) (SArgs_all rfl) rfl rfl ?_)|apply ay (hd:=rfl)|exact zAF rfl|exact zAB rfl|exact zBX rfl|exact zAX rfl rfl|exact zAg rfl rfl|exact zAG rfl|(apply zAC;exact rfl;(with_reducible first|exact zAe|exact zH1|exact zC7|exact zBS|exact zCn|exact zAZ))|(apply zAE;exact rfl;(with_reducible first|exact zBn|exact zBC|exact zAP);exact rfl;exact rfl)|(refine w0' ?_)|(apply zAh;exact rfl;exact rfl;exact rfl;(with_reducible first|exact zBO|exact zAP);exact rfl;exact rfl;exact rfl;exact rfl)|refine zAI rfl ?_|refine zAJ rfl ?_|apply zAS|refine zAj (by kernel_rfl) (by kernel_rfl) ?_
 all_goals first|omega|skip
 all_goals exact zCj ⟨rfl,zAT Le_nil (zHy rfl rfl rfl rfl rfl rfl (zBU rfl) (zBU rfl) (zBU rfl) rfl) rfl rfl⟩
theorem zXL(l:List RCl)(c:RCl): l.map enCl++[.agg [i64 c.at_,i64 c.base,w64 c.fn]]=(l++[c]).map enCl:=by rw[qAk];rfl
theorem zPp(m:Img)(r:Raw){f w:Nat}{tag n:Int}(ht:Top2 r f w)(hc:r.cls.length<1000)(hB:BlkQ r f 2 tag n true): zAU prog 44 [.ptr 0 0,.d (bl false)] (MX m r) .top (MX m { r with stk:=r.stk.take (r.stk.length-2)++[w],cls:=r.cls++[r.c],c:=⟨tag,(r.stk.length:Int)-2,f⟩ }):=by
 obtain⟨h2,hf,hw,hl⟩:=ht
 have hT1:=zBt m r (k:=1) (by omega) hf hl
 have hT0:=zBt m r (k:=0) (by omega) hw hl
 have hO:=zFQ m r hB
 have hT:=zIe m r (n:=2) hl h2
 have l5:(r.stk.take (r.stk.length-2)).length=r.stk.length-2:=by rw[qAJ];omega
 have hP:=zHD m { r with stk:=r.stk.take (r.stk.length-2),cls:=r.cls++[r.c],c:=⟨r.c.at_,(r.stk.length:Int)-2,r.c.fn⟩ } (w:=w) (by show (List.take _ _).length<=_;omega)
 have hcl:¬(r.cls.length:Int)=1000:=by omega
 have ez:(((r.stk.take (r.stk.length-2)).length:Nat):Int)=(r.stk.length:Int)-2:=by omega
 refine zAx func44 rfl ntmps44 results44 rfl ?_
 intro wb St0 X fx
 repeat' first|(refine zJh (rid:=7) [.ptr 0 0,.ptr 0 0,.ptr 0 0,.ptr 0 (0+7),.buf 6 r.cls.length,.ptr 0 0,.ptr 0 0,.ptr 0 (0+4),.d (.agg [i64 r.c.at_,i64 r.c.base,w64 r.c.fn]),.d (.slice [.agg [i64 r.c.at_,i64 r.c.base,w64 r.c.fn]]),.top] 10 6 (by kernel_rfl) (by kernel_rfl) rfl rfl rfl (.inr (by kernel_rfl)) ⟨.inr ⟨⟨rfl,zAG rfl⟩,rfl,rfl,.inr ⟨rfl,rfl,zAG rfl⟩⟩,⟨.inr ⟨⟨rfl,zAG rfl⟩,rfl,rfl,.inl (by kernel_rfl)⟩,⟨.inr ⟨⟨rfl,zAK rfl⟩,rfl,rfl,.inl (by kernel_rfl)⟩,⟨.inr ⟨⟨rfl,zAC rfl zDf⟩,rfl,rfl,.inl (by kernel_rfl)⟩,⟨.inr ⟨⟨rfl,zAE rfl zB7 rfl rfl⟩,rfl,rfl,.inl (by kernel_rfl)⟩,⟨.inr ⟨⟨rfl,zAG rfl⟩,rfl,rfl,.inl (by kernel_rfl)⟩,⟨.inr ⟨⟨rfl,zAK rfl⟩,rfl,rfl,.inl (by kernel_rfl)⟩,⟨.inr ⟨⟨rfl,zAC rfl zAZ⟩,rfl,rfl,.inl (by kernel_rfl)⟩,⟨.inr ⟨⟨rfl,zA4 rfl zCO rfl rfl rfl⟩,rfl,rfl,.inl (by kernel_rfl)⟩,⟨.inr ⟨⟨rfl,zCI zLN zES zSe rfl rfl (zAY rfl zAM) rfl⟩,rfl,rfl,.inl (by kernel_rfl)⟩,⟨.inl rfl,trivial⟩⟩⟩⟩⟩⟩⟩⟩⟩⟩⟩ rfl rfl rfl (qAC _).symm rfl zLN zES zSk zSr rfl rfl (zEA rfl) (by simp only[qAS,qAv];omega) ?_)|(refine zBN (id:=9) (s:=[(0,.ptr 0 0),(4,.d (w64 f)),(5,.d (w64 w))]) (h:=MA fx m { r with stk:=r.stk.take (r.stk.length-2),cls:=r.cls++[r.c],c:=⟨r.c.at_,(r.stk.length:Int)-2,r.c.fn⟩ }) (zAT (Le_all rfl) (zEi rfl (by rw[<-ez];rfl) rfl qAE rfl rfl rfl rfl rfl rfl rfl rfl (zBU rfl) (zBU (congrArg (Ob.buf true _ 3) (zXL r.cls r.c).symm)) (zBU rfl) rfl) rfl rfl) ?_)|apply en_n|apply zAH|apply zAA|apply zAD|apply w0|exact zAm rfl rfl|exact zAK rfl|(refine zBv (by kernel_rfl) ?_;apply zAh;exact rfl;exact rfl;exact rfl;(first|with_reducible exact zBC|with_reducible exact zCO|with_reducible exact zB7|with_reducible exact zB4|with_reducible exact zCR|with_reducible exact zBO|with_reducible exact zAP);exact rfl;exact rfl;exact rfl;exact rfl)|(refine zAW [0,1,2,3,4,5,6,7,8] [] rfl rfl zAr (hT1) rfl (SArgs_all rfl) rfl (by decide) rfl rfl rfl rfl)|(refine zAW [0,1,2,3,4,5,6,7,8] [] rfl rfl zAr (hT0) rfl (SArgs_all rfl) rfl (by decide) rfl rfl rfl rfl)|(refine zAW [0,1,2,3,4,5,6,7,8] [] rfl rfl zCP (hO) rfl (SArgs_all rfl) rfl (by decide) rfl rfl rfl rfl)|(refine zAW [1,2,3,4] [] rfl rfl zCi (hB) rfl (SArgs_all rfl) rfl (by decide) rfl rfl rfl rfl)|(refine aVM zGx (hT) (SArgs_all rfl) rfl rfl ?_)|(refine aVM zEF (hP) (SArgs_all rfl) rfl rfl ?_)|apply ay (hd:=rfl)|exact zAF rfl|exact zAB rfl|exact zBX rfl|exact zAa rfl rfl|exact zAg rfl rfl|(apply zA5;exact rfl;(with_reducible first|exact zCq|exact zGl))|exact zAG rfl|(apply zAC;exact rfl;(with_reducible first|exact zAe|exact zH1|exact zC7|exact zBS|exact zCn|exact zAZ|exact zDf))|(apply zAE;exact rfl;(with_reducible first|exact zBn|exact zBC|exact zB7);exact rfl;exact rfl)|refine w1 rfl rfl ?_|(refine w0' ?_)|(apply zAh;exact rfl;exact rfl;exact rfl;(with_reducible first|exact zBO|exact zAP);exact rfl;exact rfl;exact rfl;exact rfl)|refine zAJ rfl ?_|apply zAS
 all_goals first|omega|skip
 all_goals exact zCj ⟨rfl,zAT Le_nil (zHy rfl rfl rfl rfl rfl rfl (zBU rfl) (zBU rfl) (zBU rfl) rfl) rfl rfl⟩
end Go.Proofs.YtcagoomibpcdlaaGreatDoor
