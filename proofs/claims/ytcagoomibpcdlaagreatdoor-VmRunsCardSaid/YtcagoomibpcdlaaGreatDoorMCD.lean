import Derived.Test.YtcagoomibpcdlaaGreatDoorMCA
set_option maxHeartbeats 16000000
namespace Go.Proofs.YtcagoomibpcdlaaGreatDoor
open _root_.Go.Proofs.Tryz
open Go.Sx Go.Vm
attribute [local irreducible] zAL Program.underlying Ylds zA2 alex zBZ zBP awp zAb zBh zBg zAW zBF zAp zBG zBR zAr zBV zBY zBe zBM zA8 zBE
theorem st_C(m:Img)(r r':Raw){a b:Int}:
  (∀{r1:Raw} {w:Nat} {x:Int},(hT:zAp prog 24 [.ptr 0 0,.d (i64 0)] (MX m (nxt r)) (w64 w))->(hN:zAp prog 49 [.ptr 0 0,.d (w64 w)] (MX m (nxt r)) (.tup [i64 x,bl true]))->(hK:zAW prog 42 [.ptr 0 0,.d (i64 1)] (MX m (nxt r)) .top (MX m r1))->(hG:zAW prog 51 [.ptr 0 0,.d (i64 a),.d (bl (decide (x=0)))] (MX m (r1)) .top (MX m r'))->StTo m r r' 16 a b)/\
  (∀{w:Nat} {kk tg n:Int},(hT:zAp prog 24 [.ptr 0 0,.d (i64 0)] (MX m (nxt r)) (w64 w))->(hO:zAp prog 52 [.ptr 0 0,.d (w64 w),.d (i64 1)] (MX m (nxt r)) (bl true))->(hX:zAp prog 53 [.ptr 0 0,.d (w64 w)] (HO r.size r.now r.oth r.beg) (.tup [i64 kk,i64 tg,i64 n,bl true]))->(hG:zAW prog 51 [.ptr 0 0,.d (i64 a),.d (bl (decide (tg≠b)))] (MX m (nxt r)) .top (MX m r'))->StTo m r r' 19 a b)/\
  (∀{w:Nat} {x y:Int} {t:Bool} {s:List UInt8},(hT:zAp prog 24 [.ptr 0 0,.d (i64 0)] (MX m (nxt r)) (w64 w))->(hN:zAp prog 49 [.ptr 0 0,.d (w64 w)] (MX m (nxt r)) (.tup [i64 x,bl true]))->(hb0:0<=b)->(hk:m.pool[b.toNat]?=some ⟨t,y,s⟩)->(hG:zAW prog 51 [.ptr 0 0,.d (i64 a),.d (bl (decide (x≠y)))] (MX m (nxt r)) .top (MX m r'))->StTo m r r' 20 a b):=by
 refine⟨fun {r1} {w} {x} hT hN hK hG=>?_,fun {w} {kk} {tg} {n} hT hO hX hG=>?_,fun {w} {x} {y} {t} {s} hT hN hb0 hk hG=>?_⟩
 all_goals
  intro wb St0 X fx
  conv=>arg 2;whnf
  skip
  exact yC
theorem zZ8(m:Img)(r r':Raw){a b:Int}(hc:InsAt m r ⟨16,a,b⟩){r1:Raw}{w:Nat}{x:Int}(hT:zAp prog 24 [.ptr 0 0,.d (i64 0)] (MX m (nxt r)) (w64 w))(hN:zAp prog 49 [.ptr 0 0,.d (w64 w)] (MX m (nxt r)) (.tup [i64 x,bl true]))(hK:zAW prog 42 [.ptr 0 0,.d (i64 1)] (MX m (nxt r)) .top (MX m r1))(hG:zAW prog 51 [.ptr 0 0,.d (i64 a),.d (bl (decide (x=0)))] (MX m (r1)) .top (MX m r')): zAW prog 22 [.ptr 0 0] (MX m r) .top (MX m r'):=zCo m r r' hc ((st_C m r r').1 hT hN hK hG)
theorem zZ5(m:Img)(r r':Raw){a b:Int}(hc:InsAt m r ⟨19,a,b⟩){w:Nat}{kk tg n:Int}(hT:zAp prog 24 [.ptr 0 0,.d (i64 0)] (MX m (nxt r)) (w64 w))(hO:zAp prog 52 [.ptr 0 0,.d (w64 w),.d (i64 1)] (MX m (nxt r)) (bl true))(hX:zAp prog 53 [.ptr 0 0,.d (w64 w)] (HO r.size r.now r.oth r.beg) (.tup [i64 kk,i64 tg,i64 n,bl true]))(hG:zAW prog 51 [.ptr 0 0,.d (i64 a),.d (bl (decide (tg≠b)))] (MX m (nxt r)) .top (MX m r')): zAW prog 22 [.ptr 0 0] (MX m r) .top (MX m r'):=zCo m r r' hc ((st_C m r r').2.1 hT hO hX hG)
theorem zZ4(m:Img)(r r':Raw){a b:Int}(hc:InsAt m r ⟨20,a,b⟩){w:Nat}{x y:Int}{t:Bool}{s:List UInt8}(hT:zAp prog 24 [.ptr 0 0,.d (i64 0)] (MX m (nxt r)) (w64 w))(hN:zAp prog 49 [.ptr 0 0,.d (w64 w)] (MX m (nxt r)) (.tup [i64 x,bl true]))(hb0:0<=b)(hk:m.pool[b.toNat]?=some ⟨t,y,s⟩)(hG:zAW prog 51 [.ptr 0 0,.d (i64 a),.d (bl (decide (x≠y)))] (MX m (nxt r)) .top (MX m r')): zAW prog 22 [.ptr 0 0] (MX m r) .top (MX m r'):=zCo m r r' hc ((st_C m r r').2.2 hT hN hb0 hk hG)
theorem zZ9(m:Img)(r:Raw){a b:Int}(hc:InsAt m r ⟨15,a,b⟩): zAW prog 22 [.ptr 0 0] (MX m r) .top (MX m { r with c:={ r.c with at_:=a } }):=by
 refine zCo m r _ hc fun wb St0 X fx=>?_
 conv=>arg 2;whnf
 skip
 repeat' first|apply en_n|apply zAE|apply zAA|apply zAB|apply w0|(apply zAG;exact rfl;(first|with_reducible exact zAw|with_reducible exact vq_tc_23);exact rfl;exact rfl)|refine ayA rfl ?_|refine ayQ rfl ?_|apply ay (hd:=rfl)|(refine w0' ?_)|refine aStA ?_|refine zAJ rfl ?_|refine zAI rfl ?_|apply zAO|apply eb_n
 all_goals first|omega|skip
 all_goals exact zC5 ⟨rfl,zAU Le_nil (zJj rfl rfl rfl rfl rfl rfl (zBs rfl) (zBs rfl) (zBs rfl) rfl) rfl rfl⟩
theorem zaA(m:Img)(r:Raw){a b:Int}(hc:InsAt m r ⟨14,a,b⟩)(h1:1<=r.trs.length)(hl:r.trs.length<=1048576): zAW prog 22 [.ptr 0 0] (MX m r) .top (MX m { nxt r with trs:=r.trs.dropLast }):=by
 have h1':1<=(nxt r).trs.length:=h1
 have hl':(nxt r).trs.length<=1048576:=hl
 have l7:(nxt r).trs.dropLast.length=(((nxt r).trs.length:Int)-1).toNat:=by rw[qAy];omega
 refine zCo m r _ hc fun wb St0 X fx=>?_
 conv=>arg 2;whnf
 skip
 repeat' first|apply en_n|apply zAE|apply zAA|apply zAB|apply w0|(refine zCJ (by kernel_rfl) ?_;refine aStA ?_)|(apply zHH;exact rfl;(first|with_reducible exact zEj|with_reducible exact zEc|with_reducible exact zEb);exact rfl;omega;exact⟨_,_,_,_,rfl,(by first|exact qA2 (zAq _).symm|exact qA2 (qAC _).symm)⟩)|(apply zAG;exact rfl;(first|with_reducible exact zAw|with_reducible exact vq_tc_23);exact rfl;exact rfl)|refine ayA rfl ?_|refine ayQ rfl ?_|apply ay (hd:=rfl)|refine zCe rfl rfl ?_|(refine w0' ?_)|refine zAJ rfl ?_|refine zAI rfl ?_|apply zAO|refine awDA ?_|apply eb_n
 all_goals first|omega|skip
 all_goals exact zC5 ⟨rfl,zAU Le_nil (zFl rfl rfl rfl rfl l7 rfl rfl rfl rfl rfl rfl rfl (zBs rfl) (zBs rfl) (zQQ _) rfl) rfl rfl⟩
theorem zZ7(m:Img)(r:Raw){a b:Int}(hc:InsAt m r ⟨17,a,b⟩)(hl:r.trs.length<=1048576): zAW prog 22 [.ptr 0 0] (MX m r) .top (MX m { nxt r with trs:=r.trs++[⟨{ (nxt r).c with at_:=a },(r.stk.length:Int),(r.cls.length:Int)⟩] }):=by
 have hl':(nxt r).trs.length<=1048576:=hl
 refine zCo m r _ hc fun wb St0 X fx=>?_
 conv=>arg 2;whnf
 skip
 repeat' first|(refine zHF (id:=39) [.y (.ptr 0 0),.y (.ptr 0 0),.y (.ptr 0 (0+4)),.y (.d (.agg [i64 (nxt r).c.at_,i64 (nxt r).c.base,w64 (nxt r).c.fn])),.y (.ptr 0 0),.y (.ptr 0 0),.y (.ptr 0 (0+3)),.y (.buf 5 (nxt r).stk.length),.y (.d (i64 ((nxt r).stk.length:Int))),.y (.ptr 0 0),.y (.ptr 0 0),.y (.ptr 0 (0+7)),.y (.buf 6 (nxt r).cls.length),.y (.d (i64 ((nxt r).cls.length:Int))),.y (.d (.agg [i64 (nxt r).c.at_,i64 (nxt r).c.base,w64 (nxt r).c.fn,i64 ((nxt r).stk.length:Int),i64 ((nxt r).cls.length:Int)])),.mk ⟨7,_,114,_⟩ none] (by kernel_rfl) (by kernel_rfl) (.inr (by kernel_rfl)) ⟨⟨rfl,zAQ rfl⟩,rfl,⟨rfl,zAa rfl⟩,rfl,⟨rfl,zAF rfl zCx⟩,rfl,⟨rfl,zAT rfl zCc rfl rfl rfl⟩,rfl,⟨rfl,zAQ rfl⟩,rfl,⟨rfl,zAa rfl⟩,rfl,⟨rfl,zAF rfl zDC⟩,rfl,⟨rfl,zAG rfl zBS rfl rfl⟩,rfl,⟨rfl,zAy rfl zDF⟩,rfl,⟨rfl,zAQ rfl⟩,rfl,⟨rfl,zAa rfl⟩,rfl,⟨rfl,zAF rfl zEL⟩,rfl,⟨rfl,zAG rfl zCP rfl rfl⟩,rfl,⟨rfl,zAy rfl zIH⟩,rfl,⟨rfl,zBI zWU zKM (PD_d rfl rfl (PD_d rfl rfl (PD_d rfl rfl zCI))) rfl⟩,rfl,⟨rfl,rfl,rfl,zKM,by kernel_rfl,rfl⟩,rfl,trivial⟩ ?_)|(refine zLs (rid:=41) [.ptr 0 0,.ptr 0 0,.ptr 0 0,.ptr 0 (0+8),.buf 7 (nxt r).trs.length,.d (.agg [i64 a,i64 (nxt r).c.base,w64 (nxt r).c.fn,i64 ((nxt r).stk.length:Int),i64 ((nxt r).cls.length:Int)]),.d (.slice [.agg [i64 a,i64 (nxt r).c.base,w64 (nxt r).c.fn,i64 ((nxt r).stk.length:Int),i64 ((nxt r).cls.length:Int)]]),.top] 7 7 (by kernel_rfl) (by kernel_rfl) rfl rfl rfl (.inr (by kernel_rfl)) ⟨.inr ⟨⟨rfl,zAQ rfl⟩,rfl,rfl,.inr ⟨rfl,rfl,zAQ rfl⟩⟩,⟨.inr ⟨⟨rfl,zAQ rfl⟩,rfl,rfl,.inl (by kernel_rfl)⟩,⟨.inr ⟨⟨rfl,zAa rfl⟩,rfl,rfl,.inl (by kernel_rfl)⟩,⟨.inr ⟨⟨rfl,zAF rfl zDb⟩,rfl,rfl,.inl (by kernel_rfl)⟩,⟨.inr ⟨⟨rfl,zAG rfl zCN rfl rfl⟩,rfl,rfl,.inl (by kernel_rfl)⟩,⟨.inr ⟨⟨rfl,zAT rfl zCf rfl rfl rfl⟩,rfl,rfl,.inl (by kernel_rfl)⟩,⟨.inr ⟨⟨rfl,zCA zNr zEz zWL rfl rfl (zAN rfl zAH) rfl⟩,rfl,rfl,.inl (by kernel_rfl)⟩,⟨.inl rfl,trivial⟩⟩⟩⟩⟩⟩⟩⟩ rfl rfl rfl (qAC _).symm rfl zNr zEz zWR zWY rfl rfl (zCu rfl) (by simp only[qAN,qAj];omega) ?_)|apply en_n|apply zAE|apply zAA|apply zAB|apply w0|(refine zCJ (by kernel_rfl) ?_;refine aStA ?_)|(apply zAG;exact rfl;(first|with_reducible exact zAw|with_reducible exact vq_tc_23);exact rfl;exact rfl)|refine ayA rfl ?_|refine ayQ rfl ?_|apply ay (hd:=rfl)|(refine w0' ?_)|refine aStA ?_|refine zAJ rfl ?_|refine zAI rfl ?_|apply zAO|apply eb_n
 all_goals first|omega|skip
 all_goals exact zC5 ⟨rfl,zAU Le_nil (zFl rfl rfl rfl rfl qAE rfl rfl rfl rfl rfl rfl rfl (zBs rfl) (zBs rfl) (zBs (congrArg (Ob.buf true _ 5) (zcJ r.trs _).symm)) rfl) rfl rfl⟩
