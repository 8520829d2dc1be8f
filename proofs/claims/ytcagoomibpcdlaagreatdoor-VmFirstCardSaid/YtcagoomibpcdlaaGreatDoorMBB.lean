/- Parts of the proof. -/
import Derived.Test.YtcagoomibpcdlaaGreatDoorMBA
set_option maxHeartbeats 16000000
namespace Go.Proofs.YtcagoomibpcdlaaGreatDoor
open _root_.Go.Proofs.Tryz
open Go.Sx Go.Vm
attribute [local irreducible] zAN Program.underlying Ylds zA9 alex zB3 zBf awp zAi zCC zCB zAU zBl zAz zBq zBj zBB zBr zB2 zB8 zBi zBd zBg
def nxt(r:Raw): Raw:={ r with c:={ r.c with at_:=r.c.at_+1 } }
def inB(op a b:Int): Ob:=.bx none (some 46) [.d (i64 op),.d (i64 a),.d (i64 b)]
structure InsAt(m:Img)(r:Raw)(i:Ins): Prop where
 pos:0<=r.c.at_
 at_:m.code[r.c.at_.toNat]?=some i
 big:m.code.length<=1048576
theorem zCV{fx:Nat->Option Nat}{m:Img}{r:Raw}{η:List Ob}{o0 o1 o2 o3 o4 o5 o6 o7 o8 o9 o:Ob}{q:List Ob}(e:η=o0::o1::o2::o3::o4::o5::o6::o7::o8::o9::q)
  (h:MA fx m r=[o0,o1,o2,o3,o4,o5,o6,o7,o8]) (h9:o=o9):Pre (MA fx m r++[o]) η:=by
 subst e h9
 rw[h]
 exact zAO rfl rfl (zAO rfl rfl (zAO rfl rfl (zAO rfl rfl (zAO rfl rfl (zAO rfl rfl (zAO rfl rfl (zAO rfl rfl (zAO rfl rfl (zAO rfl rfl zAt)))))))))
theorem zYO(m:Img)(r r':Raw){a b:Int}(hc:InsAt m r ⟨0,a,b⟩)(hR:zAU prog 21 [.ptr 0 0,.d (i64 1)] (MX m (nxt r)) .top (MX m r')): zAU prog 22 [.ptr 0 0] (MX m r) .top (MX m r'):=by
 obtain⟨hpos,hat0,hbig⟩:=hc
 have hbd:=(qAA.1 hat0).1
 have hat:=zBz (f:=enIn) hat0
 refine zAx func22 rfl ntmps22 results22 rfl ?_
 intro wb St0 X fx
 repeat' first|(refine zBR (id:=0) [.y (.ptr 0 0),.y (.ptr 0 0),.y (.ptr 0 (0+0)),.y (.ptr 0 (0+0+1)),.y (.d (.slice (m.code.map enIn))),.y (.ptr 0 0),.y (.ptr 0 0),.y (.ptr 0 (0+4)),.y (.ptr 0 (0+4+0)),.y (.d (i64 r.c.at_)),.y (.rptr [i64 0,i64 a,i64 b]),.y (.d (.agg (List.take 3 [i64 0,i64 a,i64 b]))),.mk ⟨2,_,46,_⟩ none] (by kernel_rfl) (by kernel_rfl) (.inr (by kernel_rfl)) ⟨⟨rfl,zAG rfl⟩,rfl,⟨rfl,zAK rfl⟩,rfl,⟨rfl,zAC rfl zA8⟩,rfl,⟨rfl,zAC rfl zBD⟩,rfl,⟨rfl,zAE rfl zBo rfl rfl⟩,rfl,⟨rfl,zAG rfl⟩,rfl,⟨rfl,zAK rfl⟩,rfl,⟨rfl,zAC rfl zAZ⟩,rfl,⟨rfl,zAC rfl zAe⟩,rfl,⟨rfl,zAE rfl zAP rfl rfl⟩,rfl,⟨rfl,zCU rfl rfl zBh hpos hat rfl (by decide)⟩,rfl,⟨rfl,zBH rfl zA3 rfl⟩,rfl,⟨rfl,rfl,rfl,zBw,by kernel_rfl,rfl⟩,rfl,trivial⟩ ?_)|(refine zBN (id:=2) (s:=[(0,.ptr 0 0),(2,.ptr 9 0)]) (h:=MA fx m (nxt r)++[inB 0 a b]) (zAT (Le_all rfl) (zCV rfl rfl rfl) rfl rfl) ?_)|apply en_n|apply zAH|apply zAA|apply zAD|apply w0|(refine zBv (by kernel_rfl) ?_;apply zAh;exact rfl;exact rfl;exact rfl;(with_reducible exact zA3);exact rfl;exact rfl;exact rfl;exact rfl)|exact zAk rfl rfl|exact zAK rfl|(apply zAE;exact rfl;(first|with_reducible exact zAd|with_reducible exact vq_tc_23);exact rfl;exact rfl)|(refine aVMt (fx:=fx) (m:=m) (r:=nxt r) (tl:=[inB 0 a b]) zDK hR (SArgs_all rfl) rfl rfl rfl rfl ?_)|apply ay (hd:=rfl)|exact zAB rfl|refine zBE rfl rfl ?_|exact zAG rfl|(apply zAC;exact rfl;(with_reducible first|exact zBA|exact zAe|exact zAZ))|exact zAE rfl zAP rfl rfl|(refine w0' ?_)|refine zAh rfl rfl rfl zAP rfl rfl rfl rfl ?_|refine zAI rfl ?_|apply zAL|apply eb_n
 all_goals first|omega|skip
 all_goals exact zBK rfl rfl
theorem zQM(m:Img)(r r':Raw){a b:Int}(hc:InsAt m r ⟨1,a,b⟩)(hR:zAU prog 38 [.ptr 0 0,.d (i64 a)] (MX m (nxt r)) .top (MX m r')): zAU prog 22 [.ptr 0 0] (MX m r) .top (MX m r'):=by
 obtain⟨hpos,hat0,hbig⟩:=hc
 have hbd:=(qAA.1 hat0).1
 have hat:=zBz (f:=enIn) hat0
 refine zAx func22 rfl ntmps22 results22 rfl ?_
 intro wb St0 X fx
 repeat' first|(refine zBR (id:=0) [.y (.ptr 0 0),.y (.ptr 0 0),.y (.ptr 0 (0+0)),.y (.ptr 0 (0+0+1)),.y (.d (.slice (m.code.map enIn))),.y (.ptr 0 0),.y (.ptr 0 0),.y (.ptr 0 (0+4)),.y (.ptr 0 (0+4+0)),.y (.d (i64 r.c.at_)),.y (.rptr [i64 1,i64 a,i64 b]),.y (.d (.agg (List.take 3 [i64 1,i64 a,i64 b]))),.mk ⟨2,_,46,_⟩ none] (by kernel_rfl) (by kernel_rfl) (.inr (by kernel_rfl)) ⟨⟨rfl,zAG rfl⟩,rfl,⟨rfl,zAK rfl⟩,rfl,⟨rfl,zAC rfl zA8⟩,rfl,⟨rfl,zAC rfl zBD⟩,rfl,⟨rfl,zAE rfl zBo rfl rfl⟩,rfl,⟨rfl,zAG rfl⟩,rfl,⟨rfl,zAK rfl⟩,rfl,⟨rfl,zAC rfl zAZ⟩,rfl,⟨rfl,zAC rfl zAe⟩,rfl,⟨rfl,zAE rfl zAP rfl rfl⟩,rfl,⟨rfl,zCU rfl rfl zBh hpos hat rfl (by decide)⟩,rfl,⟨rfl,zBH rfl zA3 rfl⟩,rfl,⟨rfl,rfl,rfl,zBw,by kernel_rfl,rfl⟩,rfl,trivial⟩ ?_)|(refine zBN (id:=2) (s:=[(0,.ptr 0 0),(2,.ptr 9 0)]) (h:=MA fx m (nxt r)++[inB 1 a b]) (zAT (Le_all rfl) (zCV rfl rfl rfl) rfl rfl) ?_)|apply en_n|apply zAH|apply zAA|apply zAD|apply w0|(refine zBv (by kernel_rfl) ?_;apply zAh;exact rfl;exact rfl;exact rfl;(with_reducible exact zA3);exact rfl;exact rfl;exact rfl;exact rfl)|exact zAk rfl rfl|exact zAm rfl rfl|exact zAK rfl|(apply zAE;exact rfl;(first|with_reducible exact zAd|with_reducible exact vq_tc_23);exact rfl;exact rfl)|(refine aVMt (fx:=fx) (m:=m) (r:=nxt r) (tl:=[inB 1 a b]) zPX hR (SArgs_all rfl) rfl rfl rfl rfl ?_)|apply ay (hd:=rfl)|exact zAB rfl|refine zBE rfl rfl ?_|exact zAG rfl|(apply zAC;exact rfl;(with_reducible first|exact zBA|exact zAp|exact zAe|exact zAZ))|exact zAE rfl zAP rfl rfl|(refine w0' ?_)|refine zAh rfl rfl rfl zAP rfl rfl rfl rfl ?_|refine zAI rfl ?_|refine zAJ rfl ?_|apply zAL|apply eb_n
 all_goals first|omega|skip
 all_goals exact zBK rfl rfl
theorem zYK(m:Img)(r r':Raw){a b:Int}(hc:InsAt m r ⟨5,a,b⟩)(hR:zAU prog 42 [.ptr 0 0,.d (i64 a)] (MX m (nxt r)) .top (MX m r')): zAU prog 22 [.ptr 0 0] (MX m r) .top (MX m r'):=by
 obtain⟨hpos,hat0,hbig⟩:=hc
 have hbd:=(qAA.1 hat0).1
 have hat:=zBz (f:=enIn) hat0
 refine zAx func22 rfl ntmps22 results22 rfl ?_
 intro wb St0 X fx
 repeat' first|(refine zBR (id:=0) [.y (.ptr 0 0),.y (.ptr 0 0),.y (.ptr 0 (0+0)),.y (.ptr 0 (0+0+1)),.y (.d (.slice (m.code.map enIn))),.y (.ptr 0 0),.y (.ptr 0 0),.y (.ptr 0 (0+4)),.y (.ptr 0 (0+4+0)),.y (.d (i64 r.c.at_)),.y (.rptr [i64 5,i64 a,i64 b]),.y (.d (.agg (List.take 3 [i64 5,i64 a,i64 b]))),.mk ⟨2,_,46,_⟩ none] (by kernel_rfl) (by kernel_rfl) (.inr (by kernel_rfl)) ⟨⟨rfl,zAG rfl⟩,rfl,⟨rfl,zAK rfl⟩,rfl,⟨rfl,zAC rfl zA8⟩,rfl,⟨rfl,zAC rfl zBD⟩,rfl,⟨rfl,zAE rfl zBo rfl rfl⟩,rfl,⟨rfl,zAG rfl⟩,rfl,⟨rfl,zAK rfl⟩,rfl,⟨rfl,zAC rfl zAZ⟩,rfl,⟨rfl,zAC rfl zAe⟩,rfl,⟨rfl,zAE rfl zAP rfl rfl⟩,rfl,⟨rfl,zCU rfl rfl zBh hpos hat rfl (by decide)⟩,rfl,⟨rfl,zBH rfl zA3 rfl⟩,rfl,⟨rfl,rfl,rfl,zBw,by kernel_rfl,rfl⟩,rfl,trivial⟩ ?_)|(refine zBN (id:=2) (s:=[(0,.ptr 0 0),(2,.ptr 9 0)]) (h:=MA fx m (nxt r)++[inB 5 a b]) (zAT (Le_all rfl) (zCV rfl rfl rfl) rfl rfl) ?_)|apply en_n|apply zAH|apply zAA|apply zAD|apply w0|(refine zBv (by kernel_rfl) ?_;apply zAh;exact rfl;exact rfl;exact rfl;(with_reducible exact zA3);exact rfl;exact rfl;exact rfl;exact rfl)|exact zAk rfl rfl|exact zAm rfl rfl|exact zAK rfl|(apply zAE;exact rfl;(first|with_reducible exact zAd|with_reducible exact vq_tc_23);exact rfl;exact rfl)|(refine aVMt (fx:=fx) (m:=m) (r:=nxt r) (tl:=[inB 5 a b]) zGx hR (SArgs_all rfl) rfl rfl rfl rfl ?_)|apply ay (hd:=rfl)|exact zAB rfl|refine zBE rfl rfl ?_|exact zAG rfl|(apply zAC;exact rfl;(with_reducible first|exact zBA|exact zAp|exact zAe|exact zAZ))|exact zAE rfl zAP rfl rfl|(refine w0' ?_)|refine zAh rfl rfl rfl zAP rfl rfl rfl rfl ?_|refine zAI rfl ?_|refine zAJ rfl ?_|apply zAL|apply eb_n
 all_goals first|omega|skip
 all_goals exact zBK rfl rfl
theorem zYI(m:Img)(r r':Raw){a b:Int}(hc:InsAt m r ⟨7,a,b⟩)(hR:zAU prog 44 [.ptr 0 0,.d (bl false)] (MX m (nxt r)) .top (MX m r')): zAU prog 22 [.ptr 0 0] (MX m r) .top (MX m r'):=by
 obtain⟨hpos,hat0,hbig⟩:=hc
 have hbd:=(qAA.1 hat0).1
 have hat:=zBz (f:=enIn) hat0
 refine zAx func22 rfl ntmps22 results22 rfl ?_
 intro wb St0 X fx
 repeat' first|(refine zBR (id:=0) [.y (.ptr 0 0),.y (.ptr 0 0),.y (.ptr 0 (0+0)),.y (.ptr 0 (0+0+1)),.y (.d (.slice (m.code.map enIn))),.y (.ptr 0 0),.y (.ptr 0 0),.y (.ptr 0 (0+4)),.y (.ptr 0 (0+4+0)),.y (.d (i64 r.c.at_)),.y (.rptr [i64 7,i64 a,i64 b]),.y (.d (.agg (List.take 3 [i64 7,i64 a,i64 b]))),.mk ⟨2,_,46,_⟩ none] (by kernel_rfl) (by kernel_rfl) (.inr (by kernel_rfl)) ⟨⟨rfl,zAG rfl⟩,rfl,⟨rfl,zAK rfl⟩,rfl,⟨rfl,zAC rfl zA8⟩,rfl,⟨rfl,zAC rfl zBD⟩,rfl,⟨rfl,zAE rfl zBo rfl rfl⟩,rfl,⟨rfl,zAG rfl⟩,rfl,⟨rfl,zAK rfl⟩,rfl,⟨rfl,zAC rfl zAZ⟩,rfl,⟨rfl,zAC rfl zAe⟩,rfl,⟨rfl,zAE rfl zAP rfl rfl⟩,rfl,⟨rfl,zCU rfl rfl zBh hpos hat rfl (by decide)⟩,rfl,⟨rfl,zBH rfl zA3 rfl⟩,rfl,⟨rfl,rfl,rfl,zBw,by kernel_rfl,rfl⟩,rfl,trivial⟩ ?_)|(refine zBN (id:=2) (s:=[(0,.ptr 0 0),(2,.ptr 9 0)]) (h:=MA fx m (nxt r)++[inB 7 a b]) (zAT (Le_all rfl) (zCV rfl rfl rfl) rfl rfl) ?_)|apply en_n|apply zAH|apply zAA|apply zAD|apply w0|(refine zBv (by kernel_rfl) ?_;apply zAh;exact rfl;exact rfl;exact rfl;(with_reducible exact zA3);exact rfl;exact rfl;exact rfl;exact rfl)|exact zAk rfl rfl|exact zAm rfl rfl|exact zAK rfl|(apply zAE;exact rfl;(first|with_reducible exact zAd|with_reducible exact vq_tc_23);exact rfl;exact rfl)|(refine aVMt (fx:=fx) (m:=m) (r:=nxt r) (tl:=[inB 7 a b]) zJT hR (SArgs_all rfl) rfl rfl rfl rfl ?_)|apply ay (hd:=rfl)|exact zAB rfl|refine zBE rfl rfl ?_|exact zAG rfl|(apply zAC;exact rfl;(with_reducible first|exact zBA|exact zAe|exact zAZ))|exact zAE rfl zAP rfl rfl|(refine w0' ?_)|refine zAh rfl rfl rfl zAP rfl rfl rfl rfl ?_|refine zAI rfl ?_|refine zAJ rfl ?_|apply zAL|apply zAS|apply eb_n
 all_goals first|omega|skip
 all_goals exact zBK rfl rfl
theorem zYH(m:Img)(r r':Raw){a b:Int}(hc:InsAt m r ⟨8,a,b⟩)(hR:zAU prog 44 [.ptr 0 0,.d (bl true)] (MX m (nxt r)) .top (MX m r')): zAU prog 22 [.ptr 0 0] (MX m r) .top (MX m r'):=by
 obtain⟨hpos,hat0,hbig⟩:=hc
 have hbd:=(qAA.1 hat0).1
 have hat:=zBz (f:=enIn) hat0
 refine zAx func22 rfl ntmps22 results22 rfl ?_
 intro wb St0 X fx
 repeat' first|(refine zBR (id:=0) [.y (.ptr 0 0),.y (.ptr 0 0),.y (.ptr 0 (0+0)),.y (.ptr 0 (0+0+1)),.y (.d (.slice (m.code.map enIn))),.y (.ptr 0 0),.y (.ptr 0 0),.y (.ptr 0 (0+4)),.y (.ptr 0 (0+4+0)),.y (.d (i64 r.c.at_)),.y (.rptr [i64 8,i64 a,i64 b]),.y (.d (.agg (List.take 3 [i64 8,i64 a,i64 b]))),.mk ⟨2,_,46,_⟩ none] (by kernel_rfl) (by kernel_rfl) (.inr (by kernel_rfl)) ⟨⟨rfl,zAG rfl⟩,rfl,⟨rfl,zAK rfl⟩,rfl,⟨rfl,zAC rfl zA8⟩,rfl,⟨rfl,zAC rfl zBD⟩,rfl,⟨rfl,zAE rfl zBo rfl rfl⟩,rfl,⟨rfl,zAG rfl⟩,rfl,⟨rfl,zAK rfl⟩,rfl,⟨rfl,zAC rfl zAZ⟩,rfl,⟨rfl,zAC rfl zAe⟩,rfl,⟨rfl,zAE rfl zAP rfl rfl⟩,rfl,⟨rfl,zCU rfl rfl zBh hpos hat rfl (by decide)⟩,rfl,⟨rfl,zBH rfl zA3 rfl⟩,rfl,⟨rfl,rfl,rfl,zBw,by kernel_rfl,rfl⟩,rfl,trivial⟩ ?_)|(refine zBN (id:=2) (s:=[(0,.ptr 0 0),(2,.ptr 9 0)]) (h:=MA fx m (nxt r)++[inB 8 a b]) (zAT (Le_all rfl) (zCV rfl rfl rfl) rfl rfl) ?_)|apply en_n|apply zAH|apply zAA|apply zAD|apply w0|(refine zBv (by kernel_rfl) ?_;apply zAh;exact rfl;exact rfl;exact rfl;(with_reducible exact zA3);exact rfl;exact rfl;exact rfl;exact rfl)|exact zAk rfl rfl|exact zAm rfl rfl|exact zAK rfl|(apply zAE;exact rfl;(first|with_reducible exact zAd|with_reducible exact vq_tc_23);exact rfl;exact rfl)|(refine aVMt (fx:=fx) (m:=m) (r:=nxt r) (tl:=[inB 8 a b]) zJT hR (SArgs_all rfl) rfl rfl rfl rfl ?_)|apply ay (hd:=rfl)|exact zAB rfl|refine zBE rfl rfl ?_|exact zAG rfl|(apply zAC;exact rfl;(with_reducible first|exact zBA|exact zAe|exact zAZ))|exact zAE rfl zAP rfl rfl|(refine w0' ?_)|refine zAh rfl rfl rfl zAP rfl rfl rfl rfl ?_|refine zAI rfl ?_|refine zAJ rfl ?_|apply zAL|apply eb_n
 all_goals first|omega|skip
 all_goals exact zBK rfl rfl
theorem zYG(m:Img)(r r':Raw){a b:Int}(hc:InsAt m r ⟨9,a,b⟩)(hR:zAU prog 45 [.ptr 0 0] (MX m (nxt r)) .top (MX m r')): zAU prog 22 [.ptr 0 0] (MX m r) .top (MX m r'):=by
 obtain⟨hpos,hat0,hbig⟩:=hc
 have hbd:=(qAA.1 hat0).1
 have hat:=zBz (f:=enIn) hat0
 refine zAx func22 rfl ntmps22 results22 rfl ?_
 intro wb St0 X fx
 repeat' first|(refine zBR (id:=0) [.y (.ptr 0 0),.y (.ptr 0 0),.y (.ptr 0 (0+0)),.y (.ptr 0 (0+0+1)),.y (.d (.slice (m.code.map enIn))),.y (.ptr 0 0),.y (.ptr 0 0),.y (.ptr 0 (0+4)),.y (.ptr 0 (0+4+0)),.y (.d (i64 r.c.at_)),.y (.rptr [i64 9,i64 a,i64 b]),.y (.d (.agg (List.take 3 [i64 9,i64 a,i64 b]))),.mk ⟨2,_,46,_⟩ none] (by kernel_rfl) (by kernel_rfl) (.inr (by kernel_rfl)) ⟨⟨rfl,zAG rfl⟩,rfl,⟨rfl,zAK rfl⟩,rfl,⟨rfl,zAC rfl zA8⟩,rfl,⟨rfl,zAC rfl zBD⟩,rfl,⟨rfl,zAE rfl zBo rfl rfl⟩,rfl,⟨rfl,zAG rfl⟩,rfl,⟨rfl,zAK rfl⟩,rfl,⟨rfl,zAC rfl zAZ⟩,rfl,⟨rfl,zAC rfl zAe⟩,rfl,⟨rfl,zAE rfl zAP rfl rfl⟩,rfl,⟨rfl,zCU rfl rfl zBh hpos hat rfl (by decide)⟩,rfl,⟨rfl,zBH rfl zA3 rfl⟩,rfl,⟨rfl,rfl,rfl,zBw,by kernel_rfl,rfl⟩,rfl,trivial⟩ ?_)|(refine zBN (id:=2) (s:=[(0,.ptr 0 0),(2,.ptr 9 0)]) (h:=MA fx m (nxt r)++[inB 9 a b]) (zAT (Le_all rfl) (zCV rfl rfl rfl) rfl rfl) ?_)|apply en_n|apply zAH|apply zAA|apply zAD|apply w0|(refine zBv (by kernel_rfl) ?_;apply zAh;exact rfl;exact rfl;exact rfl;(with_reducible exact zA3);exact rfl;exact rfl;exact rfl;exact rfl)|exact zAk rfl rfl|exact zAm rfl rfl|exact zAK rfl|(apply zAE;exact rfl;(first|with_reducible exact zAd|with_reducible exact vq_tc_23);exact rfl;exact rfl)|(refine aVMt (fx:=fx) (m:=m) (r:=nxt r) (tl:=[inB 9 a b]) zPY hR (SArgs_all rfl) rfl rfl rfl rfl ?_)|apply ay (hd:=rfl)|exact zAB rfl|refine zBE rfl rfl ?_|exact zAG rfl|(apply zAC;exact rfl;(with_reducible first|exact zBA|exact zAe|exact zAZ))|exact zAE rfl zAP rfl rfl|(refine w0' ?_)|refine zAh rfl rfl rfl zAP rfl rfl rfl rfl ?_|refine zAI rfl ?_|refine zAJ rfl ?_|apply zAL|apply eb_n
 all_goals first|omega|skip
 all_goals exact zBK rfl rfl
theorem zWD(m:Img)(r r':Raw){a b:Int}(hc:InsAt m r ⟨10,a,b⟩)(hR:zAU prog 46 [.ptr 0 0,.d (i64 1),.d (i64 a),.d (i64 b)] (MX m (nxt r)) .top (MX m r')): zAU prog 22 [.ptr 0 0] (MX m r) .top (MX m r'):=by
 obtain⟨hpos,hat0,hbig⟩:=hc
 have hbd:=(qAA.1 hat0).1
 have hat:=zBz (f:=enIn) hat0
 refine zAx func22 rfl ntmps22 results22 rfl ?_
 intro wb St0 X fx
 repeat' first|(refine zBR (id:=0) [.y (.ptr 0 0),.y (.ptr 0 0),.y (.ptr 0 (0+0)),.y (.ptr 0 (0+0+1)),.y (.d (.slice (m.code.map enIn))),.y (.ptr 0 0),.y (.ptr 0 0),.y (.ptr 0 (0+4)),.y (.ptr 0 (0+4+0)),.y (.d (i64 r.c.at_)),.y (.rptr [i64 10,i64 a,i64 b]),.y (.d (.agg (List.take 3 [i64 10,i64 a,i64 b]))),.mk ⟨2,_,46,_⟩ none] (by kernel_rfl) (by kernel_rfl) (.inr (by kernel_rfl)) ⟨⟨rfl,zAG rfl⟩,rfl,⟨rfl,zAK rfl⟩,rfl,⟨rfl,zAC rfl zA8⟩,rfl,⟨rfl,zAC rfl zBD⟩,rfl,⟨rfl,zAE rfl zBo rfl rfl⟩,rfl,⟨rfl,zAG rfl⟩,rfl,⟨rfl,zAK rfl⟩,rfl,⟨rfl,zAC rfl zAZ⟩,rfl,⟨rfl,zAC rfl zAe⟩,rfl,⟨rfl,zAE rfl zAP rfl rfl⟩,rfl,⟨rfl,zCU rfl rfl zBh hpos hat rfl (by decide)⟩,rfl,⟨rfl,zBH rfl zA3 rfl⟩,rfl,⟨rfl,rfl,rfl,zBw,by kernel_rfl,rfl⟩,rfl,trivial⟩ ?_)|(refine zBN (id:=2) (s:=[(0,.ptr 0 0),(2,.ptr 9 0)]) (h:=MA fx m (nxt r)++[inB 10 a b]) (zAT (Le_all rfl) (zCV rfl rfl rfl) rfl rfl) ?_)|apply en_n|apply zAH|apply zAA|apply zAD|apply w0|(refine zBv (by kernel_rfl) ?_;apply zAh;exact rfl;exact rfl;exact rfl;(with_reducible exact zA3);exact rfl;exact rfl;exact rfl;exact rfl)|exact zAk rfl rfl|exact zAm rfl rfl|exact zAK rfl|(apply zAE;exact rfl;(first|with_reducible exact zAd|with_reducible exact vq_tc_23);exact rfl;exact rfl)|(refine aVMt (fx:=fx) (m:=m) (r:=nxt r) (tl:=[inB 10 a b]) zHL hR (SArgs_all rfl) rfl rfl rfl rfl ?_)|apply ay (hd:=rfl)|exact zAB rfl|refine zBE rfl rfl ?_|exact zAG rfl|(apply zAC;exact rfl;(with_reducible first|exact zBA|exact zAp|exact zCY|exact zAe|exact zAZ))|exact zAE rfl zAP rfl rfl|(refine w0' ?_)|refine zAh rfl rfl rfl zAP rfl rfl rfl rfl ?_|refine zAI rfl ?_|refine zAJ rfl ?_|apply zAL|apply eb_n
 all_goals first|omega|skip
 all_goals exact zBK rfl rfl
theorem zV5(m:Img)(r r':Raw){a b:Int}(hc:InsAt m r ⟨18,a,b⟩)(hR:zAU prog 46 [.ptr 0 0,.d (i64 2),.d (i64 a),.d (i64 b)] (MX m (nxt r)) .top (MX m r')): zAU prog 22 [.ptr 0 0] (MX m r) .top (MX m r'):=by
 obtain⟨hpos,hat0,hbig⟩:=hc
 have hbd:=(qAA.1 hat0).1
 have hat:=zBz (f:=enIn) hat0
 refine zAx func22 rfl ntmps22 results22 rfl ?_
 intro wb St0 X fx
 repeat' first|(refine zBR (id:=0) [.y (.ptr 0 0),.y (.ptr 0 0),.y (.ptr 0 (0+0)),.y (.ptr 0 (0+0+1)),.y (.d (.slice (m.code.map enIn))),.y (.ptr 0 0),.y (.ptr 0 0),.y (.ptr 0 (0+4)),.y (.ptr 0 (0+4+0)),.y (.d (i64 r.c.at_)),.y (.rptr [i64 18,i64 a,i64 b]),.y (.d (.agg (List.take 3 [i64 18,i64 a,i64 b]))),.mk ⟨2,_,46,_⟩ none] (by kernel_rfl) (by kernel_rfl) (.inr (by kernel_rfl)) ⟨⟨rfl,zAG rfl⟩,rfl,⟨rfl,zAK rfl⟩,rfl,⟨rfl,zAC rfl zA8⟩,rfl,⟨rfl,zAC rfl zBD⟩,rfl,⟨rfl,zAE rfl zBo rfl rfl⟩,rfl,⟨rfl,zAG rfl⟩,rfl,⟨rfl,zAK rfl⟩,rfl,⟨rfl,zAC rfl zAZ⟩,rfl,⟨rfl,zAC rfl zAe⟩,rfl,⟨rfl,zAE rfl zAP rfl rfl⟩,rfl,⟨rfl,zCU rfl rfl zBh hpos hat rfl (by decide)⟩,rfl,⟨rfl,zBH rfl zA3 rfl⟩,rfl,⟨rfl,rfl,rfl,zBw,by kernel_rfl,rfl⟩,rfl,trivial⟩ ?_)|(refine zBN (id:=2) (s:=[(0,.ptr 0 0),(2,.ptr 9 0)]) (h:=MA fx m (nxt r)++[inB 18 a b]) (zAT (Le_all rfl) (zCV rfl rfl rfl) rfl rfl) ?_)|apply en_n|apply zAH|apply zAA|apply zAD|apply w0|(refine zBv (by kernel_rfl) ?_;apply zAh;exact rfl;exact rfl;exact rfl;(with_reducible exact zA3);exact rfl;exact rfl;exact rfl;exact rfl)|exact zAk rfl rfl|exact zAm rfl rfl|exact zAK rfl|(apply zAE;exact rfl;(first|with_reducible exact zAd|with_reducible exact vq_tc_23);exact rfl;exact rfl)|(refine aVMt (fx:=fx) (m:=m) (r:=nxt r) (tl:=[inB 18 a b]) zHL hR (SArgs_all rfl) rfl rfl rfl rfl ?_)|apply ay (hd:=rfl)|exact zAB rfl|refine zBE rfl rfl ?_|exact zAG rfl|(apply zAC;exact rfl;(with_reducible first|exact zBA|exact zAp|exact zCY|exact zAe|exact zAZ))|exact zAE rfl zAP rfl rfl|(refine w0' ?_)|refine zAh rfl rfl rfl zAP rfl rfl rfl rfl ?_|refine zAI rfl ?_|refine zAJ rfl ?_|apply zAL|apply eb_n
 all_goals first|omega|skip
 all_goals exact zBK rfl rfl
theorem zWC(m:Img)(r r':Raw){a b:Int}(hc:InsAt m r ⟨11,a,b⟩)(hR:zAU prog 47 [.ptr 0 0,.d (i64 a)] (MX m (nxt r)) .top (MX m r')): zAU prog 22 [.ptr 0 0] (MX m r) .top (MX m r'):=by
 obtain⟨hpos,hat0,hbig⟩:=hc
 have hbd:=(qAA.1 hat0).1
 have hat:=zBz (f:=enIn) hat0
 refine zAx func22 rfl ntmps22 results22 rfl ?_
 intro wb St0 X fx
 repeat' first|(refine zBR (id:=0) [.y (.ptr 0 0),.y (.ptr 0 0),.y (.ptr 0 (0+0)),.y (.ptr 0 (0+0+1)),.y (.d (.slice (m.code.map enIn))),.y (.ptr 0 0),.y (.ptr 0 0),.y (.ptr 0 (0+4)),.y (.ptr 0 (0+4+0)),.y (.d (i64 r.c.at_)),.y (.rptr [i64 11,i64 a,i64 b]),.y (.d (.agg (List.take 3 [i64 11,i64 a,i64 b]))),.mk ⟨2,_,46,_⟩ none] (by kernel_rfl) (by kernel_rfl) (.inr (by kernel_rfl)) ⟨⟨rfl,zAG rfl⟩,rfl,⟨rfl,zAK rfl⟩,rfl,⟨rfl,zAC rfl zA8⟩,rfl,⟨rfl,zAC rfl zBD⟩,rfl,⟨rfl,zAE rfl zBo rfl rfl⟩,rfl,⟨rfl,zAG rfl⟩,rfl,⟨rfl,zAK rfl⟩,rfl,⟨rfl,zAC rfl zAZ⟩,rfl,⟨rfl,zAC rfl zAe⟩,rfl,⟨rfl,zAE rfl zAP rfl rfl⟩,rfl,⟨rfl,zCU rfl rfl zBh hpos hat rfl (by decide)⟩,rfl,⟨rfl,zBH rfl zA3 rfl⟩,rfl,⟨rfl,rfl,rfl,zBw,by kernel_rfl,rfl⟩,rfl,trivial⟩ ?_)|(refine zBN (id:=2) (s:=[(0,.ptr 0 0),(2,.ptr 9 0)]) (h:=MA fx m (nxt r)++[inB 11 a b]) (zAT (Le_all rfl) (zCV rfl rfl rfl) rfl rfl) ?_)|apply en_n|apply zAH|apply zAA|apply zAD|apply w0|(refine zBv (by kernel_rfl) ?_;apply zAh;exact rfl;exact rfl;exact rfl;(with_reducible exact zA3);exact rfl;exact rfl;exact rfl;exact rfl)|exact zAk rfl rfl|exact zAm rfl rfl|exact zAK rfl|(apply zAE;exact rfl;(first|with_reducible exact zAd|with_reducible exact vq_tc_23);exact rfl;exact rfl)|(refine aVMt (fx:=fx) (m:=m) (r:=nxt r) (tl:=[inB 11 a b]) zNB hR (SArgs_all rfl) rfl rfl rfl rfl ?_)|apply ay (hd:=rfl)|exact zAB rfl|refine zBE rfl rfl ?_|exact zAG rfl|(apply zAC;exact rfl;(with_reducible first|exact zBA|exact zAp|exact zAe|exact zAZ))|exact zAE rfl zAP rfl rfl|(refine w0' ?_)|refine zAh rfl rfl rfl zAP rfl rfl rfl rfl ?_|refine zAI rfl ?_|refine zAJ rfl ?_|apply zAL|apply eb_n
 all_goals first|omega|skip
 all_goals exact zBK rfl rfl
theorem zWB(m:Img)(r r':Raw){a b:Int}(hc:InsAt m r ⟨12,a,b⟩)(hR:zAU prog 48 [.ptr 0 0,.d (i64 a)] (MX m (nxt r)) .top (MX m r')): zAU prog 22 [.ptr 0 0] (MX m r) .top (MX m r'):=by
 obtain⟨hpos,hat0,hbig⟩:=hc
 have hbd:=(qAA.1 hat0).1
 have hat:=zBz (f:=enIn) hat0
 refine zAx func22 rfl ntmps22 results22 rfl ?_
 intro wb St0 X fx
 repeat' first|(refine zBR (id:=0) [.y (.ptr 0 0),.y (.ptr 0 0),.y (.ptr 0 (0+0)),.y (.ptr 0 (0+0+1)),.y (.d (.slice (m.code.map enIn))),.y (.ptr 0 0),.y (.ptr 0 0),.y (.ptr 0 (0+4)),.y (.ptr 0 (0+4+0)),.y (.d (i64 r.c.at_)),.y (.rptr [i64 12,i64 a,i64 b]),.y (.d (.agg (List.take 3 [i64 12,i64 a,i64 b]))),.mk ⟨2,_,46,_⟩ none] (by kernel_rfl) (by kernel_rfl) (.inr (by kernel_rfl)) ⟨⟨rfl,zAG rfl⟩,rfl,⟨rfl,zAK rfl⟩,rfl,⟨rfl,zAC rfl zA8⟩,rfl,⟨rfl,zAC rfl zBD⟩,rfl,⟨rfl,zAE rfl zBo rfl rfl⟩,rfl,⟨rfl,zAG rfl⟩,rfl,⟨rfl,zAK rfl⟩,rfl,⟨rfl,zAC rfl zAZ⟩,rfl,⟨rfl,zAC rfl zAe⟩,rfl,⟨rfl,zAE rfl zAP rfl rfl⟩,rfl,⟨rfl,zCU rfl rfl zBh hpos hat rfl (by decide)⟩,rfl,⟨rfl,zBH rfl zA3 rfl⟩,rfl,⟨rfl,rfl,rfl,zBw,by kernel_rfl,rfl⟩,rfl,trivial⟩ ?_)|(refine zBN (id:=2) (s:=[(0,.ptr 0 0),(2,.ptr 9 0)]) (h:=MA fx m (nxt r)++[inB 12 a b]) (zAT (Le_all rfl) (zCV rfl rfl rfl) rfl rfl) ?_)|apply en_n|apply zAH|apply zAA|apply zAD|apply w0|(refine zBv (by kernel_rfl) ?_;apply zAh;exact rfl;exact rfl;exact rfl;(with_reducible exact zA3);exact rfl;exact rfl;exact rfl;exact rfl)|exact zAk rfl rfl|exact zAm rfl rfl|exact zAK rfl|(apply zAE;exact rfl;(first|with_reducible exact zAd|with_reducible exact vq_tc_23);exact rfl;exact rfl)|(refine aVMt (fx:=fx) (m:=m) (r:=nxt r) (tl:=[inB 12 a b]) zPW hR (SArgs_all rfl) rfl rfl rfl rfl ?_)|apply ay (hd:=rfl)|exact zAB rfl|refine zBE rfl rfl ?_|exact zAG rfl|(apply zAC;exact rfl;(with_reducible first|exact zBA|exact zAp|exact zAe|exact zAZ))|exact zAE rfl zAP rfl rfl|(refine w0' ?_)|refine zAh rfl rfl rfl zAP rfl rfl rfl rfl ?_|refine zAI rfl ?_|refine zAJ rfl ?_|apply zAL|apply eb_n
 all_goals first|omega|skip
 all_goals exact zBK rfl rfl
theorem zV9(m:Img)(r:Raw){a b:Int}(hc:InsAt m r ⟨14,a,b⟩)(h1:1<=r.trs.length)(hl:r.trs.length<=1048576): zAU prog 22 [.ptr 0 0] (MX m r) .top (MX m { nxt r with trs:=r.trs.dropLast }):=by
 obtain⟨hpos,hat0,hbig⟩:=hc
 have hbd:=(qAA.1 hat0).1
 have hat:=zBz (f:=enIn) hat0
 have h1':1<=(nxt r).trs.length:=h1
 have hl':(nxt r).trs.length<=1048576:=hl
 have l7:(nxt r).trs.dropLast.length=(((nxt r).trs.length:Int)-1).toNat:=by rw[qAt];omega
 refine zAx func22 rfl ntmps22 results22 rfl ?_
 intro wb St0 X fx
 repeat' first|(refine zBR (id:=0) [.y (.ptr 0 0),.y (.ptr 0 0),.y (.ptr 0 (0+0)),.y (.ptr 0 (0+0+1)),.y (.d (.slice (m.code.map enIn))),.y (.ptr 0 0),.y (.ptr 0 0),.y (.ptr 0 (0+4)),.y (.ptr 0 (0+4+0)),.y (.d (i64 r.c.at_)),.y (.rptr [i64 14,i64 a,i64 b]),.y (.d (.agg (List.take 3 [i64 14,i64 a,i64 b]))),.mk ⟨2,_,46,_⟩ none] (by kernel_rfl) (by kernel_rfl) (.inr (by kernel_rfl)) ⟨⟨rfl,zAG rfl⟩,rfl,⟨rfl,zAK rfl⟩,rfl,⟨rfl,zAC rfl zA8⟩,rfl,⟨rfl,zAC rfl zBD⟩,rfl,⟨rfl,zAE rfl zBo rfl rfl⟩,rfl,⟨rfl,zAG rfl⟩,rfl,⟨rfl,zAK rfl⟩,rfl,⟨rfl,zAC rfl zAZ⟩,rfl,⟨rfl,zAC rfl zAe⟩,rfl,⟨rfl,zAE rfl zAP rfl rfl⟩,rfl,⟨rfl,zCU rfl rfl zBh hpos hat rfl (by decide)⟩,rfl,⟨rfl,zBH rfl zA3 rfl⟩,rfl,⟨rfl,rfl,rfl,zBw,by kernel_rfl,rfl⟩,rfl,trivial⟩ ?_)|(refine zBN (id:=2) (s:=[(0,.ptr 0 0),(2,.ptr 9 0)]) (h:=MA fx m (nxt r)++[inB 14 a b]) (zAT (Le_all rfl) (zCV rfl rfl rfl) rfl rfl) ?_)|apply en_n|apply zAH|apply zAA|apply zAD|apply w0|(refine zBv (by kernel_rfl) ?_;apply zAh;exact rfl;exact rfl;exact rfl;(with_reducible exact zA3);exact rfl;exact rfl;exact rfl;exact rfl)|exact zAk rfl rfl|exact zAm rfl rfl|exact zAK rfl|(refine zBv (by kernel_rfl) ?_;apply zAh;exact rfl;exact rfl;exact rfl;(first|with_reducible exact zBC|with_reducible exact zCO|with_reducible exact zB7|with_reducible exact zB4|with_reducible exact zCR|with_reducible exact zBO|with_reducible exact zAP);exact rfl;exact rfl;exact rfl;exact rfl)|(apply zFv;exact rfl;(first|with_reducible exact zDw|with_reducible exact zDq|with_reducible exact zDp);exact rfl;omega;exact⟨_,_,_,_,rfl,(by first|exact qA0 (zAl _).symm|exact qA0 (qAC _).symm)⟩)|(apply zAE;exact rfl;(first|with_reducible exact zAd|with_reducible exact vq_tc_23);exact rfl;exact rfl)|apply ay (hd:=rfl)|exact zAB rfl|refine zBE rfl rfl ?_|refine zDb rfl rfl ?_|exact zA5 rfl zGk|exact zAG rfl|(apply zAC;exact rfl;(with_reducible first|exact zBA|exact zAe|exact zAZ|exact zC6))|(apply zAE;exact rfl;(with_reducible first|exact zB4|exact zAP);exact rfl;exact rfl)|(refine w0' ?_)|refine zAh rfl rfl rfl zAP rfl rfl rfl rfl ?_|refine zAI rfl ?_|refine zAJ rfl ?_|apply zAL|refine zAj (by kernel_rfl) (by kernel_rfl) ?_|apply eb_n
 all_goals first|omega|skip
 all_goals exact zCj ⟨rfl,zAT Le_nil (zEi rfl rfl rfl rfl l7 rfl rfl rfl rfl rfl rfl rfl (zBU rfl) (zBU rfl) (zNZ _) rfl) rfl rfl⟩
end Go.Proofs.YtcagoomibpcdlaaGreatDoor
