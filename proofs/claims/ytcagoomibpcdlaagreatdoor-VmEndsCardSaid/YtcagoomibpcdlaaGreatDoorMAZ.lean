/- Parts of the proof. -/
import Derived.Test.YtcagoomibpcdlaaGreatDoorMAY
set_option maxHeartbeats 16000000
namespace Go.Proofs.YtcagoomibpcdlaaGreatDoor
open _root_.Go.Proofs.Tryz
open Go.Sx Go.Vm
attribute [local irreducible] zAO Program.underlying Ylds zBE alex zB0 zBk awp zAg zB9 zB8 zAU zBj zA6 zBl zBn zBC zBq zBz zB7 zBm zBc zBe
def nxt(r:Raw): Raw:={ r with c:={ r.c with at_:=r.c.at_+1 } }
def inB(op a b:Int): Ob:=.bx none (some 46) [.d (i64 op),.d (i64 a),.d (i64 b)]
structure InsAt(m:Img)(r:Raw)(i:Ins): Prop where
 pos:0<=r.c.at_
 at_:m.code[r.c.at_.toNat]?=some i
 big:m.code.length<=1048576
theorem zCa{fx:Nat->Option Nat}{m:Img}{r:Raw}{η:List Ob}{o0 o1 o2 o3 o4 o5 o6 o7 o8 o9 o:Ob}{q:List Ob}(e:η=o0::o1::o2::o3::o4::o5::o6::o7::o8::o9::q)
  (h:MA fx m r=[o0,o1,o2,o3,o4,o5,o6,o7,o8]) (h9:o=o9):Pre (MA fx m r++[o]) η:=by
 subst e h9
 rw[h]
 exact zAN rfl rfl (zAN rfl rfl (zAN rfl rfl (zAN rfl rfl (zAN rfl rfl (zAN rfl rfl (zAN rfl rfl (zAN rfl rfl (zAN rfl rfl (zAN rfl rfl zAs)))))))))
theorem zY5(m:Img)(r r':Raw){a b:Int}(hc:InsAt m r ⟨0,a,b⟩)(hR:zAU prog 21 [.ptr 0 0,.d (i64 1)] (MX m (nxt r)) .top (MX m r')): zAU prog 22 [.ptr 0 0] (MX m r) .top (MX m r'):=by
 obtain⟨hpos,hat0,hbig⟩:=hc
 have hbd:=(qAA.1 hat0).1
 have hat:=zB6 (f:=enIn) hat0
 refine zA7 func22 rfl ntmps22 results22 rfl ?_
 intro wb St0 X fx
 repeat' first|(refine zBZ (id:=0) [.y (.ptr 0 0),.y (.ptr 0 0),.y (.ptr 0 (0+0)),.y (.ptr 0 (0+0+1)),.y (.d (.slice (m.code.map enIn))),.y (.ptr 0 0),.y (.ptr 0 0),.y (.ptr 0 (0+4)),.y (.ptr 0 (0+4+0)),.y (.d (i64 r.c.at_)),.y (.rptr [i64 0,i64 a,i64 b]),.y (.d (.agg (List.take 3 [i64 0,i64 a,i64 b]))),.mk ⟨2,_,46,_⟩ none] (by kernel_rfl) (by kernel_rfl) (.inr (by kernel_rfl)) ⟨⟨rfl,zAH rfl⟩,rfl,⟨rfl,zAL rfl⟩,rfl,⟨rfl,zAC rfl zBI⟩,rfl,⟨rfl,zAC rfl zA9⟩,rfl,⟨rfl,zAE rfl zBg rfl rfl⟩,rfl,⟨rfl,zAH rfl⟩,rfl,⟨rfl,zAL rfl⟩,rfl,⟨rfl,zAC rfl zAc⟩,rfl,⟨rfl,zAC rfl zAe⟩,rfl,⟨rfl,zAE rfl zAP rfl rfl⟩,rfl,⟨rfl,zCX rfl rfl zB3 hpos hat rfl (by decide)⟩,rfl,⟨rfl,zBK rfl zA8 rfl⟩,rfl,⟨rfl,rfl,rfl,zCM,by kernel_rfl,rfl⟩,rfl,trivial⟩ ?_)|(refine zBT (id:=2) (s:=[(0,.ptr 0 0),(2,.ptr 9 0)]) (h:=MA fx m (nxt r)++[inB 0 a b]) (zAS (Le_all rfl) (zCa rfl rfl rfl) rfl rfl) ?_)|apply en_n|apply zAG|apply zAA|apply zAD|apply w0|(refine zBs (by kernel_rfl) ?_;apply zAj;exact rfl;exact rfl;exact rfl;(with_reducible exact zA8);exact rfl;exact rfl;exact rfl;exact rfl)|exact zAi rfl rfl|exact zAL rfl|(apply zAE;exact rfl;(first|with_reducible exact zAa|with_reducible exact vq_tc_23);exact rfl;exact rfl)|(refine aVMt (fx:=fx) (m:=m) (r:=nxt r) (tl:=[inB 0 a b]) zDL hR (SArgs_all rfl) rfl rfl rfl rfl ?_)|apply ay (hd:=rfl)|exact zAB rfl|refine zBG rfl rfl ?_|exact zAH rfl|(apply zAC;exact rfl;(with_reducible first|exact zAv|exact zAe|exact zAc))|exact zAE rfl zAP rfl rfl|(refine w0' ?_)|refine zAj rfl rfl rfl zAP rfl rfl rfl rfl ?_|refine zAI rfl ?_|apply zAK|apply eb_n
 all_goals first|omega|skip
 all_goals exact zBO rfl rfl
theorem zQ1(m:Img)(r r':Raw){a b:Int}(hc:InsAt m r ⟨1,a,b⟩)(hR:zAU prog 38 [.ptr 0 0,.d (i64 a)] (MX m (nxt r)) .top (MX m r')): zAU prog 22 [.ptr 0 0] (MX m r) .top (MX m r'):=by
 obtain⟨hpos,hat0,hbig⟩:=hc
 have hbd:=(qAA.1 hat0).1
 have hat:=zB6 (f:=enIn) hat0
 refine zA7 func22 rfl ntmps22 results22 rfl ?_
 intro wb St0 X fx
 repeat' first|(refine zBZ (id:=0) [.y (.ptr 0 0),.y (.ptr 0 0),.y (.ptr 0 (0+0)),.y (.ptr 0 (0+0+1)),.y (.d (.slice (m.code.map enIn))),.y (.ptr 0 0),.y (.ptr 0 0),.y (.ptr 0 (0+4)),.y (.ptr 0 (0+4+0)),.y (.d (i64 r.c.at_)),.y (.rptr [i64 1,i64 a,i64 b]),.y (.d (.agg (List.take 3 [i64 1,i64 a,i64 b]))),.mk ⟨2,_,46,_⟩ none] (by kernel_rfl) (by kernel_rfl) (.inr (by kernel_rfl)) ⟨⟨rfl,zAH rfl⟩,rfl,⟨rfl,zAL rfl⟩,rfl,⟨rfl,zAC rfl zBI⟩,rfl,⟨rfl,zAC rfl zA9⟩,rfl,⟨rfl,zAE rfl zBg rfl rfl⟩,rfl,⟨rfl,zAH rfl⟩,rfl,⟨rfl,zAL rfl⟩,rfl,⟨rfl,zAC rfl zAc⟩,rfl,⟨rfl,zAC rfl zAe⟩,rfl,⟨rfl,zAE rfl zAP rfl rfl⟩,rfl,⟨rfl,zCX rfl rfl zB3 hpos hat rfl (by decide)⟩,rfl,⟨rfl,zBK rfl zA8 rfl⟩,rfl,⟨rfl,rfl,rfl,zCM,by kernel_rfl,rfl⟩,rfl,trivial⟩ ?_)|(refine zBT (id:=2) (s:=[(0,.ptr 0 0),(2,.ptr 9 0)]) (h:=MA fx m (nxt r)++[inB 1 a b]) (zAS (Le_all rfl) (zCa rfl rfl rfl) rfl rfl) ?_)|apply en_n|apply zAG|apply zAA|apply zAD|apply w0|(refine zBs (by kernel_rfl) ?_;apply zAj;exact rfl;exact rfl;exact rfl;(with_reducible exact zA8);exact rfl;exact rfl;exact rfl;exact rfl)|exact zAi rfl rfl|exact zAn rfl rfl|exact zAL rfl|(apply zAE;exact rfl;(first|with_reducible exact zAa|with_reducible exact vq_tc_23);exact rfl;exact rfl)|(refine aVMt (fx:=fx) (m:=m) (r:=nxt r) (tl:=[inB 1 a b]) zQA hR (SArgs_all rfl) rfl rfl rfl rfl ?_)|apply ay (hd:=rfl)|exact zAB rfl|refine zBG rfl rfl ?_|exact zAH rfl|(apply zAC;exact rfl;(with_reducible first|exact zAv|exact zAl|exact zAe|exact zAc))|exact zAE rfl zAP rfl rfl|(refine w0' ?_)|refine zAj rfl rfl rfl zAP rfl rfl rfl rfl ?_|refine zAI rfl ?_|refine zAJ rfl ?_|apply zAK|apply eb_n
 all_goals first|omega|skip
 all_goals exact zBO rfl rfl
theorem zY1(m:Img)(r r':Raw){a b:Int}(hc:InsAt m r ⟨5,a,b⟩)(hR:zAU prog 42 [.ptr 0 0,.d (i64 a)] (MX m (nxt r)) .top (MX m r')): zAU prog 22 [.ptr 0 0] (MX m r) .top (MX m r'):=by
 obtain⟨hpos,hat0,hbig⟩:=hc
 have hbd:=(qAA.1 hat0).1
 have hat:=zB6 (f:=enIn) hat0
 refine zA7 func22 rfl ntmps22 results22 rfl ?_
 intro wb St0 X fx
 repeat' first|(refine zBZ (id:=0) [.y (.ptr 0 0),.y (.ptr 0 0),.y (.ptr 0 (0+0)),.y (.ptr 0 (0+0+1)),.y (.d (.slice (m.code.map enIn))),.y (.ptr 0 0),.y (.ptr 0 0),.y (.ptr 0 (0+4)),.y (.ptr 0 (0+4+0)),.y (.d (i64 r.c.at_)),.y (.rptr [i64 5,i64 a,i64 b]),.y (.d (.agg (List.take 3 [i64 5,i64 a,i64 b]))),.mk ⟨2,_,46,_⟩ none] (by kernel_rfl) (by kernel_rfl) (.inr (by kernel_rfl)) ⟨⟨rfl,zAH rfl⟩,rfl,⟨rfl,zAL rfl⟩,rfl,⟨rfl,zAC rfl zBI⟩,rfl,⟨rfl,zAC rfl zA9⟩,rfl,⟨rfl,zAE rfl zBg rfl rfl⟩,rfl,⟨rfl,zAH rfl⟩,rfl,⟨rfl,zAL rfl⟩,rfl,⟨rfl,zAC rfl zAc⟩,rfl,⟨rfl,zAC rfl zAe⟩,rfl,⟨rfl,zAE rfl zAP rfl rfl⟩,rfl,⟨rfl,zCX rfl rfl zB3 hpos hat rfl (by decide)⟩,rfl,⟨rfl,zBK rfl zA8 rfl⟩,rfl,⟨rfl,rfl,rfl,zCM,by kernel_rfl,rfl⟩,rfl,trivial⟩ ?_)|(refine zBT (id:=2) (s:=[(0,.ptr 0 0),(2,.ptr 9 0)]) (h:=MA fx m (nxt r)++[inB 5 a b]) (zAS (Le_all rfl) (zCa rfl rfl rfl) rfl rfl) ?_)|apply en_n|apply zAG|apply zAA|apply zAD|apply w0|(refine zBs (by kernel_rfl) ?_;apply zAj;exact rfl;exact rfl;exact rfl;(with_reducible exact zA8);exact rfl;exact rfl;exact rfl;exact rfl)|exact zAi rfl rfl|exact zAn rfl rfl|exact zAL rfl|(apply zAE;exact rfl;(first|with_reducible exact zAa|with_reducible exact vq_tc_23);exact rfl;exact rfl)|(refine aVMt (fx:=fx) (m:=m) (r:=nxt r) (tl:=[inB 5 a b]) zG3 hR (SArgs_all rfl) rfl rfl rfl rfl ?_)|apply ay (hd:=rfl)|exact zAB rfl|refine zBG rfl rfl ?_|exact zAH rfl|(apply zAC;exact rfl;(with_reducible first|exact zAv|exact zAl|exact zAe|exact zAc))|exact zAE rfl zAP rfl rfl|(refine w0' ?_)|refine zAj rfl rfl rfl zAP rfl rfl rfl rfl ?_|refine zAI rfl ?_|refine zAJ rfl ?_|apply zAK|apply eb_n
 all_goals first|omega|skip
 all_goals exact zBO rfl rfl
theorem zYz(m:Img)(r r':Raw){a b:Int}(hc:InsAt m r ⟨7,a,b⟩)(hR:zAU prog 44 [.ptr 0 0,.d (bl false)] (MX m (nxt r)) .top (MX m r')): zAU prog 22 [.ptr 0 0] (MX m r) .top (MX m r'):=by
 obtain⟨hpos,hat0,hbig⟩:=hc
 have hbd:=(qAA.1 hat0).1
 have hat:=zB6 (f:=enIn) hat0
 refine zA7 func22 rfl ntmps22 results22 rfl ?_
 intro wb St0 X fx
 repeat' first|(refine zBZ (id:=0) [.y (.ptr 0 0),.y (.ptr 0 0),.y (.ptr 0 (0+0)),.y (.ptr 0 (0+0+1)),.y (.d (.slice (m.code.map enIn))),.y (.ptr 0 0),.y (.ptr 0 0),.y (.ptr 0 (0+4)),.y (.ptr 0 (0+4+0)),.y (.d (i64 r.c.at_)),.y (.rptr [i64 7,i64 a,i64 b]),.y (.d (.agg (List.take 3 [i64 7,i64 a,i64 b]))),.mk ⟨2,_,46,_⟩ none] (by kernel_rfl) (by kernel_rfl) (.inr (by kernel_rfl)) ⟨⟨rfl,zAH rfl⟩,rfl,⟨rfl,zAL rfl⟩,rfl,⟨rfl,zAC rfl zBI⟩,rfl,⟨rfl,zAC rfl zA9⟩,rfl,⟨rfl,zAE rfl zBg rfl rfl⟩,rfl,⟨rfl,zAH rfl⟩,rfl,⟨rfl,zAL rfl⟩,rfl,⟨rfl,zAC rfl zAc⟩,rfl,⟨rfl,zAC rfl zAe⟩,rfl,⟨rfl,zAE rfl zAP rfl rfl⟩,rfl,⟨rfl,zCX rfl rfl zB3 hpos hat rfl (by decide)⟩,rfl,⟨rfl,zBK rfl zA8 rfl⟩,rfl,⟨rfl,rfl,rfl,zCM,by kernel_rfl,rfl⟩,rfl,trivial⟩ ?_)|(refine zBT (id:=2) (s:=[(0,.ptr 0 0),(2,.ptr 9 0)]) (h:=MA fx m (nxt r)++[inB 7 a b]) (zAS (Le_all rfl) (zCa rfl rfl rfl) rfl rfl) ?_)|apply en_n|apply zAG|apply zAA|apply zAD|apply w0|(refine zBs (by kernel_rfl) ?_;apply zAj;exact rfl;exact rfl;exact rfl;(with_reducible exact zA8);exact rfl;exact rfl;exact rfl;exact rfl)|exact zAi rfl rfl|exact zAn rfl rfl|exact zAL rfl|(apply zAE;exact rfl;(first|with_reducible exact zAa|with_reducible exact vq_tc_23);exact rfl;exact rfl)|(refine aVMt (fx:=fx) (m:=m) (r:=nxt r) (tl:=[inB 7 a b]) zJt hR (SArgs_all rfl) rfl rfl rfl rfl ?_)|apply ay (hd:=rfl)|exact zAB rfl|refine zBG rfl rfl ?_|exact zAH rfl|(apply zAC;exact rfl;(with_reducible first|exact zAv|exact zAe|exact zAc))|exact zAE rfl zAP rfl rfl|(refine w0' ?_)|refine zAj rfl rfl rfl zAP rfl rfl rfl rfl ?_|refine zAI rfl ?_|refine zAJ rfl ?_|apply zAK|apply zAR|apply eb_n
 all_goals first|omega|skip
 all_goals exact zBO rfl rfl
theorem zYy(m:Img)(r r':Raw){a b:Int}(hc:InsAt m r ⟨8,a,b⟩)(hR:zAU prog 44 [.ptr 0 0,.d (bl true)] (MX m (nxt r)) .top (MX m r')): zAU prog 22 [.ptr 0 0] (MX m r) .top (MX m r'):=by
 obtain⟨hpos,hat0,hbig⟩:=hc
 have hbd:=(qAA.1 hat0).1
 have hat:=zB6 (f:=enIn) hat0
 refine zA7 func22 rfl ntmps22 results22 rfl ?_
 intro wb St0 X fx
 repeat' first|(refine zBZ (id:=0) [.y (.ptr 0 0),.y (.ptr 0 0),.y (.ptr 0 (0+0)),.y (.ptr 0 (0+0+1)),.y (.d (.slice (m.code.map enIn))),.y (.ptr 0 0),.y (.ptr 0 0),.y (.ptr 0 (0+4)),.y (.ptr 0 (0+4+0)),.y (.d (i64 r.c.at_)),.y (.rptr [i64 8,i64 a,i64 b]),.y (.d (.agg (List.take 3 [i64 8,i64 a,i64 b]))),.mk ⟨2,_,46,_⟩ none] (by kernel_rfl) (by kernel_rfl) (.inr (by kernel_rfl)) ⟨⟨rfl,zAH rfl⟩,rfl,⟨rfl,zAL rfl⟩,rfl,⟨rfl,zAC rfl zBI⟩,rfl,⟨rfl,zAC rfl zA9⟩,rfl,⟨rfl,zAE rfl zBg rfl rfl⟩,rfl,⟨rfl,zAH rfl⟩,rfl,⟨rfl,zAL rfl⟩,rfl,⟨rfl,zAC rfl zAc⟩,rfl,⟨rfl,zAC rfl zAe⟩,rfl,⟨rfl,zAE rfl zAP rfl rfl⟩,rfl,⟨rfl,zCX rfl rfl zB3 hpos hat rfl (by decide)⟩,rfl,⟨rfl,zBK rfl zA8 rfl⟩,rfl,⟨rfl,rfl,rfl,zCM,by kernel_rfl,rfl⟩,rfl,trivial⟩ ?_)|(refine zBT (id:=2) (s:=[(0,.ptr 0 0),(2,.ptr 9 0)]) (h:=MA fx m (nxt r)++[inB 8 a b]) (zAS (Le_all rfl) (zCa rfl rfl rfl) rfl rfl) ?_)|apply en_n|apply zAG|apply zAA|apply zAD|apply w0|(refine zBs (by kernel_rfl) ?_;apply zAj;exact rfl;exact rfl;exact rfl;(with_reducible exact zA8);exact rfl;exact rfl;exact rfl;exact rfl)|exact zAi rfl rfl|exact zAn rfl rfl|exact zAL rfl|(apply zAE;exact rfl;(first|with_reducible exact zAa|with_reducible exact vq_tc_23);exact rfl;exact rfl)|(refine aVMt (fx:=fx) (m:=m) (r:=nxt r) (tl:=[inB 8 a b]) zJt hR (SArgs_all rfl) rfl rfl rfl rfl ?_)|apply ay (hd:=rfl)|exact zAB rfl|refine zBG rfl rfl ?_|exact zAH rfl|(apply zAC;exact rfl;(with_reducible first|exact zAv|exact zAe|exact zAc))|exact zAE rfl zAP rfl rfl|(refine w0' ?_)|refine zAj rfl rfl rfl zAP rfl rfl rfl rfl ?_|refine zAI rfl ?_|refine zAJ rfl ?_|apply zAK|apply eb_n
 all_goals first|omega|skip
 all_goals exact zBO rfl rfl
theorem zYx(m:Img)(r r':Raw){a b:Int}(hc:InsAt m r ⟨9,a,b⟩)(hR:zAU prog 45 [.ptr 0 0] (MX m (nxt r)) .top (MX m r')): zAU prog 22 [.ptr 0 0] (MX m r) .top (MX m r'):=by
 obtain⟨hpos,hat0,hbig⟩:=hc
 have hbd:=(qAA.1 hat0).1
 have hat:=zB6 (f:=enIn) hat0
 refine zA7 func22 rfl ntmps22 results22 rfl ?_
 intro wb St0 X fx
 repeat' first|(refine zBZ (id:=0) [.y (.ptr 0 0),.y (.ptr 0 0),.y (.ptr 0 (0+0)),.y (.ptr 0 (0+0+1)),.y (.d (.slice (m.code.map enIn))),.y (.ptr 0 0),.y (.ptr 0 0),.y (.ptr 0 (0+4)),.y (.ptr 0 (0+4+0)),.y (.d (i64 r.c.at_)),.y (.rptr [i64 9,i64 a,i64 b]),.y (.d (.agg (List.take 3 [i64 9,i64 a,i64 b]))),.mk ⟨2,_,46,_⟩ none] (by kernel_rfl) (by kernel_rfl) (.inr (by kernel_rfl)) ⟨⟨rfl,zAH rfl⟩,rfl,⟨rfl,zAL rfl⟩,rfl,⟨rfl,zAC rfl zBI⟩,rfl,⟨rfl,zAC rfl zA9⟩,rfl,⟨rfl,zAE rfl zBg rfl rfl⟩,rfl,⟨rfl,zAH rfl⟩,rfl,⟨rfl,zAL rfl⟩,rfl,⟨rfl,zAC rfl zAc⟩,rfl,⟨rfl,zAC rfl zAe⟩,rfl,⟨rfl,zAE rfl zAP rfl rfl⟩,rfl,⟨rfl,zCX rfl rfl zB3 hpos hat rfl (by decide)⟩,rfl,⟨rfl,zBK rfl zA8 rfl⟩,rfl,⟨rfl,rfl,rfl,zCM,by kernel_rfl,rfl⟩,rfl,trivial⟩ ?_)|(refine zBT (id:=2) (s:=[(0,.ptr 0 0),(2,.ptr 9 0)]) (h:=MA fx m (nxt r)++[inB 9 a b]) (zAS (Le_all rfl) (zCa rfl rfl rfl) rfl rfl) ?_)|apply en_n|apply zAG|apply zAA|apply zAD|apply w0|(refine zBs (by kernel_rfl) ?_;apply zAj;exact rfl;exact rfl;exact rfl;(with_reducible exact zA8);exact rfl;exact rfl;exact rfl;exact rfl)|exact zAi rfl rfl|exact zAn rfl rfl|exact zAL rfl|(apply zAE;exact rfl;(first|with_reducible exact zAa|with_reducible exact vq_tc_23);exact rfl;exact rfl)|(refine aVMt (fx:=fx) (m:=m) (r:=nxt r) (tl:=[inB 9 a b]) zQB hR (SArgs_all rfl) rfl rfl rfl rfl ?_)|apply ay (hd:=rfl)|exact zAB rfl|refine zBG rfl rfl ?_|exact zAH rfl|(apply zAC;exact rfl;(with_reducible first|exact zAv|exact zAe|exact zAc))|exact zAE rfl zAP rfl rfl|(refine w0' ?_)|refine zAj rfl rfl rfl zAP rfl rfl rfl rfl ?_|refine zAI rfl ?_|refine zAJ rfl ?_|apply zAK|apply eb_n
 all_goals first|omega|skip
 all_goals exact zBO rfl rfl
theorem zWu(m:Img)(r r':Raw){a b:Int}(hc:InsAt m r ⟨10,a,b⟩)(hR:zAU prog 46 [.ptr 0 0,.d (i64 1),.d (i64 a),.d (i64 b)] (MX m (nxt r)) .top (MX m r')): zAU prog 22 [.ptr 0 0] (MX m r) .top (MX m r'):=by
 obtain⟨hpos,hat0,hbig⟩:=hc
 have hbd:=(qAA.1 hat0).1
 have hat:=zB6 (f:=enIn) hat0
 refine zA7 func22 rfl ntmps22 results22 rfl ?_
 intro wb St0 X fx
 repeat' first|(refine zBZ (id:=0) [.y (.ptr 0 0),.y (.ptr 0 0),.y (.ptr 0 (0+0)),.y (.ptr 0 (0+0+1)),.y (.d (.slice (m.code.map enIn))),.y (.ptr 0 0),.y (.ptr 0 0),.y (.ptr 0 (0+4)),.y (.ptr 0 (0+4+0)),.y (.d (i64 r.c.at_)),.y (.rptr [i64 10,i64 a,i64 b]),.y (.d (.agg (List.take 3 [i64 10,i64 a,i64 b]))),.mk ⟨2,_,46,_⟩ none] (by kernel_rfl) (by kernel_rfl) (.inr (by kernel_rfl)) ⟨⟨rfl,zAH rfl⟩,rfl,⟨rfl,zAL rfl⟩,rfl,⟨rfl,zAC rfl zBI⟩,rfl,⟨rfl,zAC rfl zA9⟩,rfl,⟨rfl,zAE rfl zBg rfl rfl⟩,rfl,⟨rfl,zAH rfl⟩,rfl,⟨rfl,zAL rfl⟩,rfl,⟨rfl,zAC rfl zAc⟩,rfl,⟨rfl,zAC rfl zAe⟩,rfl,⟨rfl,zAE rfl zAP rfl rfl⟩,rfl,⟨rfl,zCX rfl rfl zB3 hpos hat rfl (by decide)⟩,rfl,⟨rfl,zBK rfl zA8 rfl⟩,rfl,⟨rfl,rfl,rfl,zCM,by kernel_rfl,rfl⟩,rfl,trivial⟩ ?_)|(refine zBT (id:=2) (s:=[(0,.ptr 0 0),(2,.ptr 9 0)]) (h:=MA fx m (nxt r)++[inB 10 a b]) (zAS (Le_all rfl) (zCa rfl rfl rfl) rfl rfl) ?_)|apply en_n|apply zAG|apply zAA|apply zAD|apply w0|(refine zBs (by kernel_rfl) ?_;apply zAj;exact rfl;exact rfl;exact rfl;(with_reducible exact zA8);exact rfl;exact rfl;exact rfl;exact rfl)|exact zAi rfl rfl|exact zAn rfl rfl|exact zAL rfl|(apply zAE;exact rfl;(first|with_reducible exact zAa|with_reducible exact vq_tc_23);exact rfl;exact rfl)|(refine aVMt (fx:=fx) (m:=m) (r:=nxt r) (tl:=[inB 10 a b]) zHX hR (SArgs_all rfl) rfl rfl rfl rfl ?_)|apply ay (hd:=rfl)|exact zAB rfl|refine zBG rfl rfl ?_|exact zAH rfl|(apply zAC;exact rfl;(with_reducible first|exact zAv|exact zAl|exact zCE|exact zAe|exact zAc))|exact zAE rfl zAP rfl rfl|(refine w0' ?_)|refine zAj rfl rfl rfl zAP rfl rfl rfl rfl ?_|refine zAI rfl ?_|refine zAJ rfl ?_|apply zAK|apply eb_n
 all_goals first|omega|skip
 all_goals exact zBO rfl rfl
theorem zWm(m:Img)(r r':Raw){a b:Int}(hc:InsAt m r ⟨18,a,b⟩)(hR:zAU prog 46 [.ptr 0 0,.d (i64 2),.d (i64 a),.d (i64 b)] (MX m (nxt r)) .top (MX m r')): zAU prog 22 [.ptr 0 0] (MX m r) .top (MX m r'):=by
 obtain⟨hpos,hat0,hbig⟩:=hc
 have hbd:=(qAA.1 hat0).1
 have hat:=zB6 (f:=enIn) hat0
 refine zA7 func22 rfl ntmps22 results22 rfl ?_
 intro wb St0 X fx
 repeat' first|(refine zBZ (id:=0) [.y (.ptr 0 0),.y (.ptr 0 0),.y (.ptr 0 (0+0)),.y (.ptr 0 (0+0+1)),.y (.d (.slice (m.code.map enIn))),.y (.ptr 0 0),.y (.ptr 0 0),.y (.ptr 0 (0+4)),.y (.ptr 0 (0+4+0)),.y (.d (i64 r.c.at_)),.y (.rptr [i64 18,i64 a,i64 b]),.y (.d (.agg (List.take 3 [i64 18,i64 a,i64 b]))),.mk ⟨2,_,46,_⟩ none] (by kernel_rfl) (by kernel_rfl) (.inr (by kernel_rfl)) ⟨⟨rfl,zAH rfl⟩,rfl,⟨rfl,zAL rfl⟩,rfl,⟨rfl,zAC rfl zBI⟩,rfl,⟨rfl,zAC rfl zA9⟩,rfl,⟨rfl,zAE rfl zBg rfl rfl⟩,rfl,⟨rfl,zAH rfl⟩,rfl,⟨rfl,zAL rfl⟩,rfl,⟨rfl,zAC rfl zAc⟩,rfl,⟨rfl,zAC rfl zAe⟩,rfl,⟨rfl,zAE rfl zAP rfl rfl⟩,rfl,⟨rfl,zCX rfl rfl zB3 hpos hat rfl (by decide)⟩,rfl,⟨rfl,zBK rfl zA8 rfl⟩,rfl,⟨rfl,rfl,rfl,zCM,by kernel_rfl,rfl⟩,rfl,trivial⟩ ?_)|(refine zBT (id:=2) (s:=[(0,.ptr 0 0),(2,.ptr 9 0)]) (h:=MA fx m (nxt r)++[inB 18 a b]) (zAS (Le_all rfl) (zCa rfl rfl rfl) rfl rfl) ?_)|apply en_n|apply zAG|apply zAA|apply zAD|apply w0|(refine zBs (by kernel_rfl) ?_;apply zAj;exact rfl;exact rfl;exact rfl;(with_reducible exact zA8);exact rfl;exact rfl;exact rfl;exact rfl)|exact zAi rfl rfl|exact zAn rfl rfl|exact zAL rfl|(apply zAE;exact rfl;(first|with_reducible exact zAa|with_reducible exact vq_tc_23);exact rfl;exact rfl)|(refine aVMt (fx:=fx) (m:=m) (r:=nxt r) (tl:=[inB 18 a b]) zHX hR (SArgs_all rfl) rfl rfl rfl rfl ?_)|apply ay (hd:=rfl)|exact zAB rfl|refine zBG rfl rfl ?_|exact zAH rfl|(apply zAC;exact rfl;(with_reducible first|exact zAv|exact zAl|exact zCE|exact zAe|exact zAc))|exact zAE rfl zAP rfl rfl|(refine w0' ?_)|refine zAj rfl rfl rfl zAP rfl rfl rfl rfl ?_|refine zAI rfl ?_|refine zAJ rfl ?_|apply zAK|apply eb_n
 all_goals first|omega|skip
 all_goals exact zBO rfl rfl
theorem zWt(m:Img)(r r':Raw){a b:Int}(hc:InsAt m r ⟨11,a,b⟩)(hR:zAU prog 47 [.ptr 0 0,.d (i64 a)] (MX m (nxt r)) .top (MX m r')): zAU prog 22 [.ptr 0 0] (MX m r) .top (MX m r'):=by
 obtain⟨hpos,hat0,hbig⟩:=hc
 have hbd:=(qAA.1 hat0).1
 have hat:=zB6 (f:=enIn) hat0
 refine zA7 func22 rfl ntmps22 results22 rfl ?_
 intro wb St0 X fx
 repeat' first|(refine zBZ (id:=0) [.y (.ptr 0 0),.y (.ptr 0 0),.y (.ptr 0 (0+0)),.y (.ptr 0 (0+0+1)),.y (.d (.slice (m.code.map enIn))),.y (.ptr 0 0),.y (.ptr 0 0),.y (.ptr 0 (0+4)),.y (.ptr 0 (0+4+0)),.y (.d (i64 r.c.at_)),.y (.rptr [i64 11,i64 a,i64 b]),.y (.d (.agg (List.take 3 [i64 11,i64 a,i64 b]))),.mk ⟨2,_,46,_⟩ none] (by kernel_rfl) (by kernel_rfl) (.inr (by kernel_rfl)) ⟨⟨rfl,zAH rfl⟩,rfl,⟨rfl,zAL rfl⟩,rfl,⟨rfl,zAC rfl zBI⟩,rfl,⟨rfl,zAC rfl zA9⟩,rfl,⟨rfl,zAE rfl zBg rfl rfl⟩,rfl,⟨rfl,zAH rfl⟩,rfl,⟨rfl,zAL rfl⟩,rfl,⟨rfl,zAC rfl zAc⟩,rfl,⟨rfl,zAC rfl zAe⟩,rfl,⟨rfl,zAE rfl zAP rfl rfl⟩,rfl,⟨rfl,zCX rfl rfl zB3 hpos hat rfl (by decide)⟩,rfl,⟨rfl,zBK rfl zA8 rfl⟩,rfl,⟨rfl,rfl,rfl,zCM,by kernel_rfl,rfl⟩,rfl,trivial⟩ ?_)|(refine zBT (id:=2) (s:=[(0,.ptr 0 0),(2,.ptr 9 0)]) (h:=MA fx m (nxt r)++[inB 11 a b]) (zAS (Le_all rfl) (zCa rfl rfl rfl) rfl rfl) ?_)|apply en_n|apply zAG|apply zAA|apply zAD|apply w0|(refine zBs (by kernel_rfl) ?_;apply zAj;exact rfl;exact rfl;exact rfl;(with_reducible exact zA8);exact rfl;exact rfl;exact rfl;exact rfl)|exact zAi rfl rfl|exact zAn rfl rfl|exact zAL rfl|(apply zAE;exact rfl;(first|with_reducible exact zAa|with_reducible exact vq_tc_23);exact rfl;exact rfl)|(refine aVMt (fx:=fx) (m:=m) (r:=nxt r) (tl:=[inB 11 a b]) zNj hR (SArgs_all rfl) rfl rfl rfl rfl ?_)|apply ay (hd:=rfl)|exact zAB rfl|refine zBG rfl rfl ?_|exact zAH rfl|(apply zAC;exact rfl;(with_reducible first|exact zAv|exact zAl|exact zAe|exact zAc))|exact zAE rfl zAP rfl rfl|(refine w0' ?_)|refine zAj rfl rfl rfl zAP rfl rfl rfl rfl ?_|refine zAI rfl ?_|refine zAJ rfl ?_|apply zAK|apply eb_n
 all_goals first|omega|skip
 all_goals exact zBO rfl rfl
theorem zWs(m:Img)(r r':Raw){a b:Int}(hc:InsAt m r ⟨12,a,b⟩)(hR:zAU prog 48 [.ptr 0 0,.d (i64 a)] (MX m (nxt r)) .top (MX m r')): zAU prog 22 [.ptr 0 0] (MX m r) .top (MX m r'):=by
 obtain⟨hpos,hat0,hbig⟩:=hc
 have hbd:=(qAA.1 hat0).1
 have hat:=zB6 (f:=enIn) hat0
 refine zA7 func22 rfl ntmps22 results22 rfl ?_
 intro wb St0 X fx
 repeat' first|(refine zBZ (id:=0) [.y (.ptr 0 0),.y (.ptr 0 0),.y (.ptr 0 (0+0)),.y (.ptr 0 (0+0+1)),.y (.d (.slice (m.code.map enIn))),.y (.ptr 0 0),.y (.ptr 0 0),.y (.ptr 0 (0+4)),.y (.ptr 0 (0+4+0)),.y (.d (i64 r.c.at_)),.y (.rptr [i64 12,i64 a,i64 b]),.y (.d (.agg (List.take 3 [i64 12,i64 a,i64 b]))),.mk ⟨2,_,46,_⟩ none] (by kernel_rfl) (by kernel_rfl) (.inr (by kernel_rfl)) ⟨⟨rfl,zAH rfl⟩,rfl,⟨rfl,zAL rfl⟩,rfl,⟨rfl,zAC rfl zBI⟩,rfl,⟨rfl,zAC rfl zA9⟩,rfl,⟨rfl,zAE rfl zBg rfl rfl⟩,rfl,⟨rfl,zAH rfl⟩,rfl,⟨rfl,zAL rfl⟩,rfl,⟨rfl,zAC rfl zAc⟩,rfl,⟨rfl,zAC rfl zAe⟩,rfl,⟨rfl,zAE rfl zAP rfl rfl⟩,rfl,⟨rfl,zCX rfl rfl zB3 hpos hat rfl (by decide)⟩,rfl,⟨rfl,zBK rfl zA8 rfl⟩,rfl,⟨rfl,rfl,rfl,zCM,by kernel_rfl,rfl⟩,rfl,trivial⟩ ?_)|(refine zBT (id:=2) (s:=[(0,.ptr 0 0),(2,.ptr 9 0)]) (h:=MA fx m (nxt r)++[inB 12 a b]) (zAS (Le_all rfl) (zCa rfl rfl rfl) rfl rfl) ?_)|apply en_n|apply zAG|apply zAA|apply zAD|apply w0|(refine zBs (by kernel_rfl) ?_;apply zAj;exact rfl;exact rfl;exact rfl;(with_reducible exact zA8);exact rfl;exact rfl;exact rfl;exact rfl)|exact zAi rfl rfl|exact zAn rfl rfl|exact zAL rfl|(apply zAE;exact rfl;(first|with_reducible exact zAa|with_reducible exact vq_tc_23);exact rfl;exact rfl)|(refine aVMt (fx:=fx) (m:=m) (r:=nxt r) (tl:=[inB 12 a b]) zP9 hR (SArgs_all rfl) rfl rfl rfl rfl ?_)|apply ay (hd:=rfl)|exact zAB rfl|refine zBG rfl rfl ?_|exact zAH rfl|(apply zAC;exact rfl;(with_reducible first|exact zAv|exact zAl|exact zAe|exact zAc))|exact zAE rfl zAP rfl rfl|(refine w0' ?_)|refine zAj rfl rfl rfl zAP rfl rfl rfl rfl ?_|refine zAI rfl ?_|refine zAJ rfl ?_|apply zAK|apply eb_n
 all_goals first|omega|skip
 all_goals exact zBO rfl rfl
theorem zWq(m:Img)(r:Raw){a b:Int}(hc:InsAt m r ⟨14,a,b⟩)(h1:1<=r.trs.length)(hl:r.trs.length<=1048576): zAU prog 22 [.ptr 0 0] (MX m r) .top (MX m { nxt r with trs:=r.trs.dropLast }):=by
 obtain⟨hpos,hat0,hbig⟩:=hc
 have hbd:=(qAA.1 hat0).1
 have hat:=zB6 (f:=enIn) hat0
 have h1':1<=(nxt r).trs.length:=h1
 have hl':(nxt r).trs.length<=1048576:=hl
 have l7:(nxt r).trs.dropLast.length=(((nxt r).trs.length:Int)-1).toNat:=by rw[qAv];omega
 refine zA7 func22 rfl ntmps22 results22 rfl ?_
 intro wb St0 X fx
 repeat' first|(refine zBZ (id:=0) [.y (.ptr 0 0),.y (.ptr 0 0),.y (.ptr 0 (0+0)),.y (.ptr 0 (0+0+1)),.y (.d (.slice (m.code.map enIn))),.y (.ptr 0 0),.y (.ptr 0 0),.y (.ptr 0 (0+4)),.y (.ptr 0 (0+4+0)),.y (.d (i64 r.c.at_)),.y (.rptr [i64 14,i64 a,i64 b]),.y (.d (.agg (List.take 3 [i64 14,i64 a,i64 b]))),.mk ⟨2,_,46,_⟩ none] (by kernel_rfl) (by kernel_rfl) (.inr (by kernel_rfl)) ⟨⟨rfl,zAH rfl⟩,rfl,⟨rfl,zAL rfl⟩,rfl,⟨rfl,zAC rfl zBI⟩,rfl,⟨rfl,zAC rfl zA9⟩,rfl,⟨rfl,zAE rfl zBg rfl rfl⟩,rfl,⟨rfl,zAH rfl⟩,rfl,⟨rfl,zAL rfl⟩,rfl,⟨rfl,zAC rfl zAc⟩,rfl,⟨rfl,zAC rfl zAe⟩,rfl,⟨rfl,zAE rfl zAP rfl rfl⟩,rfl,⟨rfl,zCX rfl rfl zB3 hpos hat rfl (by decide)⟩,rfl,⟨rfl,zBK rfl zA8 rfl⟩,rfl,⟨rfl,rfl,rfl,zCM,by kernel_rfl,rfl⟩,rfl,trivial⟩ ?_)|(refine zBT (id:=2) (s:=[(0,.ptr 0 0),(2,.ptr 9 0)]) (h:=MA fx m (nxt r)++[inB 14 a b]) (zAS (Le_all rfl) (zCa rfl rfl rfl) rfl rfl) ?_)|apply en_n|apply zAG|apply zAA|apply zAD|apply w0|(refine zBs (by kernel_rfl) ?_;apply zAj;exact rfl;exact rfl;exact rfl;(with_reducible exact zA8);exact rfl;exact rfl;exact rfl;exact rfl)|exact zAi rfl rfl|exact zAn rfl rfl|exact zAL rfl|(refine zBs (by kernel_rfl) ?_;apply zAj;exact rfl;exact rfl;exact rfl;(first|with_reducible exact zBJ|with_reducible exact zCT|with_reducible exact zCG|with_reducible exact zCD|with_reducible exact zCV|with_reducible exact zBU|with_reducible exact zAP);exact rfl;exact rfl;exact rfl;exact rfl)|(apply zF1;exact rfl;(first|with_reducible exact zD1|with_reducible exact zDs|with_reducible exact zDr);exact rfl;omega;exact⟨_,_,_,_,rfl,(by first|exact qA1 (zAm _).symm|exact qA1 (qAC _).symm)⟩)|(apply zAE;exact rfl;(first|with_reducible exact zAa|with_reducible exact vq_tc_23);exact rfl;exact rfl)|apply ay (hd:=rfl)|exact zAB rfl|refine zBG rfl rfl ?_|refine zC2 rfl rfl ?_|exact zA3 rfl zGs|exact zAH rfl|(apply zAC;exact rfl;(with_reducible first|exact zAv|exact zAe|exact zAc|exact zC8))|(apply zAE;exact rfl;(with_reducible first|exact zCD|exact zAP);exact rfl;exact rfl)|(refine w0' ?_)|refine zAj rfl rfl rfl zAP rfl rfl rfl rfl ?_|refine zAI rfl ?_|refine zAJ rfl ?_|apply zAK|refine zAf (by kernel_rfl) (by kernel_rfl) ?_|apply eb_n
 all_goals first|omega|skip
 all_goals exact zCl ⟨rfl,zAS Le_nil (zEp rfl rfl rfl rfl l7 rfl rfl rfl rfl rfl rfl rfl (zBf rfl) (zBf rfl) (zN7 _) rfl) rfl rfl⟩
end Go.Proofs.YtcagoomibpcdlaaGreatDoor
