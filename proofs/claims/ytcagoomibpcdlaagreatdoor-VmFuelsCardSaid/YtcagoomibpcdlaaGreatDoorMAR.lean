/- Texts of this claim, merged: VmBE. -/
import Derived.Test.YtcagoomibpcdlaaGreatDoorMAQ
namespace Go.Proofs.YtcagoomibpcdlaaGreatDoor
open Go.Sx Go.Vm
attribute [local irreducible] zAQ Program.underlying Ylds zBD alex zCA zBi awp zAp zCI zCH zAW zBw zA5 zB0 zBp zBF zBv zB9 zCE zBn zBm zBs
structure Top2(r:Raw)(f w:Nat): Prop where
 two:2≤r.stk.length
 f:r.stk[r.stk.length-1-1]?=some f
 w:r.stk[r.stk.length-1-0]?=some w
 le:r.stk.length≤1048576
theorem zTt(m:Img)(r:Raw)(b:Bool){f w:Nat}(ht:Top2 r f w)(hO:zAW Tryz.prog 52 [.ptr 0 0,.d (w64 f),.d (i64 2)] (MX m r) (.d (bl false)) (MX m { r with fin:=4 })): zAW Tryz.prog 44 [.ptr 0 0,.d (bl b)] (MX m r) .top (MX m { r with fin:=4 }):=by
 obtain⟨h2,hf,hw,hl⟩:=ht
 have hT1:=zBl m r (k:=1) (by omega) hf hl
 have hT0:=zBl m r (k:=0) (by omega) hw hl
 refine zAy Tryz.func44 rfl Tryz.ntmps44 Tryz.results44 rfl ?_
 intro wb St0 X fx
 repeat' first|apply en_n|apply zAK|apply zAA|apply zAF|apply w0|(refine zAZ [0,1,2,3,4,5,6,7,8] [] rfl rfl zAv (hT1) rfl ?_ rfl (by decide) rfl rfl rfl rfl;(repeat (refine zAB rfl ?_));exact zAE)|(refine zAZ [0,1,2,3,4,5,6,7,8] [] rfl rfl zAv (hT0) rfl ?_ rfl (by decide) rfl rfl rfl rfl;(repeat (refine zAB rfl ?_));exact zAE)|(refine aVM zCQ (hO) ?_ rfl rfl ?_;(repeat (refine zAB rfl ?_));exact zAE)|apply ay (hd:=rfl)|exact zAJ rfl|exact zAD rfl|exact zBd rfl|exact zAH rfl|(apply zAL;exact rfl)|apply zAT|apply en_r
 all_goals exact zDJ rfl
theorem zPB(m:Img)(r:Raw){f w:Nat}(ht:Top2 r f w)(hc:r.cls.length=1000)(hO:zA5 Tryz.prog 52 [.ptr 0 0,.d (w64 f),.d (i64 2)] (MX m r) (bl true)): zAW Tryz.prog 44 [.ptr 0 0,.d (bl false)] (MX m r) .top (MX m { r with fin:=6 }):=by
 obtain⟨h2,hf,hw,hl⟩:=ht
 have hT1:=zBl m r (k:=1) (by omega) hf hl
 have hT0:=zBl m r (k:=0) (by omega) hw hl
 have hS:=zEf m r 6
 have hcl:(r.cls.length:Int)=1000:=by omega
 refine zAy Tryz.func44 rfl Tryz.ntmps44 Tryz.results44 rfl ?_
 intro wb St0 X fx
 repeat' first|apply en_n|apply zAK|apply zAA|apply zAF|apply w0|(apply zAn;exact rfl;exact rfl;first|assumption|omega)|exact zAN rfl|(refine zAZ [0,1,2,3,4,5,6,7,8] [] rfl rfl zAv (hT1) rfl ?_ rfl (by decide) rfl rfl rfl rfl;(repeat (refine zAB rfl ?_));exact zAE)|(refine zAZ [0,1,2,3,4,5,6,7,8] [] rfl rfl zAv (hT0) rfl ?_ rfl (by decide) rfl rfl rfl rfl;(repeat (refine zAB rfl ?_));exact zAE)|(refine zAZ [0,1,2,3,4,5,6,7,8] [] rfl rfl zCQ (hO) rfl ?_ rfl (by decide) rfl rfl rfl rfl;(repeat (refine zAB rfl ?_));exact zAE)|(refine aVM zDB (hS) ?_ rfl rfl ?_;(repeat (refine zAB rfl ?_));exact zAE)|apply ay (hd:=rfl)|exact zAJ rfl|exact zAD rfl|exact zBd rfl|exact zAj rfl rfl|(apply zA4;exact rfl;(with_reducible exact zGU))|exact zAH rfl|(apply zAC;exact rfl;(with_reducible exact zDT))|(apply zAG;exact rfl;(with_reducible exact zB5);exact rfl;exact rfl)|(apply w1;exact rfl;exact rfl)|(apply zAL;exact rfl)|(apply zAM;exact rfl)|apply zAU|apply zAT|apply en_r
 all_goals exact zDJ rfl
set_option maxHeartbeats 4000000 in
theorem zPA(m:Img)(r:Raw){f w:Nat}{tag n:Int}(ht:Top2 r f w)(hb:0≤r.c.base∧r.c.base≤r.stk.length)(hB:BlkQ r f 2 tag n true): zAW Tryz.prog 44 [.ptr 0 0,.d (bl true)] (MX m r) .top (MX m { r with stk:=r.stk.take r.c.base.toNat++[w],c:=⟨tag,r.c.base,f⟩ }):=by
 obtain⟨h2,hf,hw,hl⟩:=ht
 have hT1:=zBl m r (k:=1) (by omega) hf hl
 have hT0:=zBl m r (k:=0) (by omega) hw hl
 have hO:=zFA m r hB
 have l5:(r.stk.take r.c.base.toNat).length=r.c.base.toNat:=by rw[List.length_take];omega
 have hP:=zGy m { r with stk:=r.stk.take r.c.base.toNat } (w:=w) (by show (List.take _ _).length≤_;omega)
 refine zAy Tryz.func44 rfl Tryz.ntmps44 Tryz.results44 rfl ?_
 intro wb St0 X fx
 repeat' first|(refine zBP (id:=9) (s:=[(0,.ptr 0 0),(4,.d (w64 f)),(5,.d (w64 w))]) (h:=MA fx m { r with stk:=r.stk.take r.c.base.toNat }) (zAV (zAI rfl (zAI rfl (zAI rfl zAd))) (zEb rfl rfl l5 rfl rfl rfl rfl rfl rfl rfl rfl rfl (zMG _ _) (zBW rfl) (zBW rfl) rfl) rfl rfl) ?_)|apply en_n|apply zAK|apply zAA|apply zAF|apply w0|(apply k1u (hd:=rfl);exact rfl;exact rfl)|exact zAN rfl|(refine zBr (by kernel_rfl) ?_;apply zAl;exact rfl;exact rfl;exact rfl;(first|with_reducible exact zBC|with_reducible exact zCP|with_reducible exact zB5|with_reducible exact zB1|with_reducible exact zCS|with_reducible exact zBQ|with_reducible exact zAS);exact rfl;exact rfl;exact rfl;exact rfl)|(apply zFb;exact rfl;(first|with_reducible exact zDk|with_reducible exact zDf|with_reducible exact zDe);exact rfl;omega;exact⟨_,_,_,_,rfl,(by first|exact Nat.le_of_eq (zAk _).symm|exact Nat.le_of_eq (List.length_map _).symm)⟩)|(refine zAZ [0,1,2,3,4,5,6,7,8] [] rfl rfl zAv (hT1) rfl ?_ rfl (by decide) rfl rfl rfl rfl;(repeat (refine zAB rfl ?_));exact zAE)|(refine zAZ [0,1,2,3,4,5,6,7,8] [] rfl rfl zAv (hT0) rfl ?_ rfl (by decide) rfl rfl rfl rfl;(repeat (refine zAB rfl ?_));exact zAE)|(refine zAZ [0,1,2,3,4,5,6,7,8] [] rfl rfl zCQ (hO) rfl ?_ rfl (by decide) rfl rfl rfl rfl;(repeat (refine zAB rfl ?_));exact zAE)|(refine zAZ [1,2,3,4] [] rfl rfl zCc (hB) rfl ?_ rfl (by decide) rfl rfl rfl rfl;(repeat (refine zAB rfl ?_));exact zAE)|(refine aVM zD1 (hP) ?_ rfl rfl ?_;(repeat (refine zAB rfl ?_));exact zAE)|apply ay (hd:=rfl)|exact zAJ rfl|exact zAD rfl|exact zBd rfl|exact zAc rfl rfl|exact zAm rfl rfl|exact zAH rfl|(apply zAC;exact rfl;(with_reducible first|exact zAe|exact zHk|exact zC1|exact zBV|exact zCh|exact zAb))|(apply zAG;exact rfl;(with_reducible first|exact zBg|exact zBC|exact zAS);exact rfl;exact rfl)|(refine w0' ?_)|(apply zAl;exact rfl;exact rfl;exact rfl;(with_reducible first|exact zBQ|exact zAS);exact rfl;exact rfl;exact rfl;exact rfl)|(apply zAL;exact rfl)|(apply zAM;exact rfl)|apply zAU|refine zAr (by kernel_rfl) (by kernel_rfl) ?_
 all_goals first|omega|skip
 all_goals exact zCe ⟨rfl,zAV zAd (zHi rfl rfl rfl rfl rfl rfl (zBW rfl) (zBW rfl) (zBW rfl) rfl) rfl rfl⟩
theorem zWT(l:List RCl)(c:RCl): l.map enCl++[.agg [i64 c.at_,i64 c.base,w64 c.fn]]=(l++[c]).map enCl:=by rw[List.map_append];rfl
set_option maxHeartbeats 4000000 in
theorem zPC(m:Img)(r:Raw){f w:Nat}{tag n:Int}(ht:Top2 r f w)(hc:r.cls.length<1000)(hB:BlkQ r f 2 tag n true): zAW Tryz.prog 44 [.ptr 0 0,.d (bl false)] (MX m r) .top (MX m { r with stk:=r.stk.take (r.stk.length-2)++[w],cls:=r.cls++[r.c],c:=⟨tag,(r.stk.length:Int)-2,f⟩ }):=by
 obtain⟨h2,hf,hw,hl⟩:=ht
 have hT1:=zBl m r (k:=1) (by omega) hf hl
 have hT0:=zBl m r (k:=0) (by omega) hw hl
 have hO:=zFA m r hB
 have hT:=zIM m r (n:=2) hl h2
 have l5:(r.stk.take (r.stk.length-2)).length=r.stk.length-2:=by rw[List.length_take];omega
 have hP:=zGy m { r with stk:=r.stk.take (r.stk.length-2),cls:=r.cls++[r.c],c:=⟨r.c.at_,(r.stk.length:Int)-2,r.c.fn⟩ } (w:=w) (by show (List.take _ _).length≤_;omega)
 have hcl:¬(r.cls.length:Int)=1000:=by omega
 have ez:(((r.stk.take (r.stk.length-2)).length:Nat):Int)=(r.stk.length:Int)-2:=by omega
 refine zAy Tryz.func44 rfl Tryz.ntmps44 Tryz.results44 rfl ?_
 intro wb St0 X fx
 repeat' first|(refine zJQ (rid:=7) [.ptr 0 0,.ptr 0 0,.ptr 0 0,.ptr 0 (0+7),.buf 6 r.cls.length,.ptr 0 0,.ptr 0 0,.ptr 0 (0+4),.d (.agg [i64 r.c.at_,i64 r.c.base,w64 r.c.fn]),.d (.slice [.agg [i64 r.c.at_,i64 r.c.base,w64 r.c.fn]]),.top] 10 6 (by kernel_rfl) (by kernel_rfl) rfl rfl rfl (.inr (by kernel_rfl)) ⟨.inr ⟨⟨rfl,zAH rfl⟩,rfl,rfl,.inr ⟨rfl,rfl,zAH rfl⟩⟩,⟨.inr ⟨⟨rfl,zAH rfl⟩,rfl,rfl,.inl (by kernel_rfl)⟩,⟨.inr ⟨⟨rfl,zAN rfl⟩,rfl,rfl,.inl (by kernel_rfl)⟩,⟨.inr ⟨⟨rfl,zAC rfl zDT⟩,rfl,rfl,.inl (by kernel_rfl)⟩,⟨.inr ⟨⟨rfl,zAG rfl zB5 rfl rfl⟩,rfl,rfl,.inl (by kernel_rfl)⟩,⟨.inr ⟨⟨rfl,zAH rfl⟩,rfl,rfl,.inl (by kernel_rfl)⟩,⟨.inr ⟨⟨rfl,zAN rfl⟩,rfl,rfl,.inl (by kernel_rfl)⟩,⟨.inr ⟨⟨rfl,zAC rfl zAb⟩,rfl,rfl,.inl (by kernel_rfl)⟩,⟨.inr ⟨⟨rfl,zBG rfl zCP rfl rfl rfl⟩,rfl,rfl,.inl (by kernel_rfl)⟩,⟨.inr ⟨⟨rfl,zCG zK0 zEI zR0 rfl rfl (zAa rfl zAR) rfl⟩,rfl,rfl,.inl (by kernel_rfl)⟩,⟨.inl rfl,trivial⟩⟩⟩⟩⟩⟩⟩⟩⟩⟩⟩ rfl rfl rfl (List.length_map _).symm rfl zK0 zEI zR6 zSD rfl rfl (zDv rfl) (by simp only[List.length_cons,List.length_nil];omega) ?_)|(refine zBP (id:=9) (s:=[(0,.ptr 0 0),(4,.d (w64 f)),(5,.d (w64 w))]) (h:=MA fx m { r with stk:=r.stk.take (r.stk.length-2),cls:=r.cls++[r.c],c:=⟨r.c.at_,(r.stk.length:Int)-2,r.c.fn⟩ }) (zAV (zAI rfl (zAI rfl (zAI rfl zAd))) (zEb rfl (by rw[←ez];rfl) rfl List.length_append rfl rfl rfl rfl rfl rfl rfl rfl (zBW rfl) (zBW (congrArg (Ob.buf true _ 3) (zWT r.cls r.c).symm)) (zBW rfl) rfl) rfl rfl) ?_)|apply en_n|apply zAK|apply zAA|apply zAF|apply w0|(apply zAs;exact rfl;exact rfl;first|assumption|omega)|exact zAN rfl|(refine zBr (by kernel_rfl) ?_;apply zAl;exact rfl;exact rfl;exact rfl;(first|with_reducible exact zBC|with_reducible exact zCP|with_reducible exact zB5|with_reducible exact zB1|with_reducible exact zCS|with_reducible exact zBQ|with_reducible exact zAS);exact rfl;exact rfl;exact rfl;exact rfl)|(refine zAZ [0,1,2,3,4,5,6,7,8] [] rfl rfl zAv (hT1) rfl ?_ rfl (by decide) rfl rfl rfl rfl;(repeat (refine zAB rfl ?_));exact zAE)|(refine zAZ [0,1,2,3,4,5,6,7,8] [] rfl rfl zAv (hT0) rfl ?_ rfl (by decide) rfl rfl rfl rfl;(repeat (refine zAB rfl ?_));exact zAE)|(refine zAZ [0,1,2,3,4,5,6,7,8] [] rfl rfl zCQ (hO) rfl ?_ rfl (by decide) rfl rfl rfl rfl;(repeat (refine zAB rfl ?_));exact zAE)|(refine zAZ [1,2,3,4] [] rfl rfl zCc (hB) rfl ?_ rfl (by decide) rfl rfl rfl rfl;(repeat (refine zAB rfl ?_));exact zAE)|(refine aVM zGe (hT) ?_ rfl rfl ?_;(repeat (refine zAB rfl ?_));exact zAE)|(refine aVM zD1 (hP) ?_ rfl rfl ?_;(repeat (refine zAB rfl ?_));exact zAE)|apply ay (hd:=rfl)|exact zAJ rfl|exact zAD rfl|exact zBd rfl|exact zAj rfl rfl|exact zAm rfl rfl|(apply zA4;exact rfl;(with_reducible first|exact zCj|exact zGU))|exact zAH rfl|(apply zAC;exact rfl;(with_reducible first|exact zAe|exact zHk|exact zC1|exact zBV|exact zCh|exact zAb|exact zDT))|(apply zAG;exact rfl;(with_reducible first|exact zBg|exact zBC|exact zB5);exact rfl;exact rfl)|(apply w1;exact rfl;exact rfl)|(refine w0' ?_)|(apply zAl;exact rfl;exact rfl;exact rfl;(with_reducible first|exact zBQ|exact zAS);exact rfl;exact rfl;exact rfl;exact rfl)|(apply zAM;exact rfl)|apply zAU
 all_goals first|omega|skip
 all_goals exact zCe ⟨rfl,zAV zAd (zHi rfl rfl rfl rfl rfl rfl (zBW rfl) (zBW rfl) (zBW rfl) rfl) rfl rfl⟩
end Go.Proofs.YtcagoomibpcdlaaGreatDoor
