import Derived.Test.YtcagoomibpcdlaaGreatDoorMAN
set_option maxHeartbeats 16000000
namespace Go.Proofs.YtcagoomibpcdlaaGreatDoor
open Go.Sx Go.Vm
section
open _root_.Go.Proofs.Tryz
attribute [local irreducible] zAL Program.underlying Ylds zA2 alex zBZ zBP awp zAb zBh zBg zAW zBF zAp zBG zBR zAr zBV zBY zBe zBM zA8 zBE
structure Top2(r:Raw)(f w:Nat): Prop where
 two:2<=r.stk.length
 f:r.stk[r.stk.length-1-1]?=some f
 w:r.stk[r.stk.length-1-0]?=some w
 le:r.stk.length<=1048576
theorem zYP(m:Img)(r:Raw)(b:Bool){f w:Nat}(ht:Top2 r f w)(hO:zAW prog 52 [.ptr 0 0,.d (w64 f),.d (i64 2)] (MX m r) (.d (bl false)) (MX m { r with fin:=4 })): zAW prog 44 [.ptr 0 0,.d (bl b)] (MX m r) .top (MX m { r with fin:=4 }):=by
 obtain⟨h2,hf,hw,hl⟩:=ht
 have hT1:=zCH m r (k:=1) (by omega) hf hl
 have hT0:=zCH m r (k:=0) (by omega) hw hl
 refine zBr func44 rfl ntmps44 results44 rfl ?_
 intro wb St0 X fx
 exact yR
theorem zSy(m:Img)(r:Raw){f w:Nat}(ht:Top2 r f w)(hc:r.cls.length=1000)(hO:zAp prog 52 [.ptr 0 0,.d (w64 f),.d (i64 2)] (MX m r) (bl true)): zAW prog 44 [.ptr 0 0,.d (bl false)] (MX m r) .top (MX m { r with fin:=6 }):=by
 obtain⟨h2,hf,hw,hl⟩:=ht
 have hT1:=zCH m r (k:=1) (by omega) hf hl
 have hT0:=zCH m r (k:=0) (by omega) hw hl
 have hS:=zFv m r 6
 have hcl:(r.cls.length:Int)=1000:=by omega
 refine zBr func44 rfl ntmps44 results44 rfl ?_
 intro wb St0 X fx
 exact yN
theorem zSx(m:Img)(r:Raw){f w:Nat}{tag n:Int}(ht:Top2 r f w)(hb:0<=r.c.base/\r.c.base<=r.stk.length)(hB:BlkQ r f 2 tag n true): zAW prog 44 [.ptr 0 0,.d (bl true)] (MX m r) .top (MX m { r with stk:=r.stk.take r.c.base.toNat++[w],c:=⟨tag,r.c.base,f⟩ }):=by
 obtain⟨h2,hf,hw,hl⟩:=ht
 have hT1:=zCH m r (k:=1) (by omega) hf hl
 have hT0:=zCH m r (k:=0) (by omega) hw hl
 have hO:=zGf m r hB
 have l5:(r.stk.take r.c.base.toNat).length=r.c.base.toNat:=by rw[qAG];omega
 have hP:=zIw m { r with stk:=r.stk.take r.c.base.toNat } (w:=w) (by show (List.take _ _).length<=_;omega)
 refine zBr func44 rfl ntmps44 results44 rfl ?_
 intro wb St0 X fx
 repeat' first|(refine zEk (id:=9) (s:=[(0,.ptr 0 0),(4,.d (w64 f)),(5,.d (w64 w))]) (h:=MA fx m { r with stk:=r.stk.take r.c.base.toNat }) (zAU (Le_all rfl) (zFl rfl rfl l5 rfl rfl rfl rfl rfl rfl rfl rfl rfl (zPW _ _) (zBs rfl) (zBs rfl) rfl) rfl rfl) ?_)|apply en_n|apply zAE|apply zAA|apply zAB|apply w0|refine k1u (hd:=rfl) rfl rfl ?_|(refine zCJ (by kernel_rfl) ?_;refine aStA ?_)|(apply zHH;exact rfl;(first|with_reducible exact zEj|with_reducible exact zEc|with_reducible exact zEb);exact rfl;omega;exact⟨_,_,_,_,rfl,(by first|exact qA2 (zAq _).symm|exact qA2 (qAC _).symm)⟩)|exact qcA [0,1,2,3,4,5,6,7,8] [] zBJ (hT1)|exact qcA [0,1,2,3,4,5,6,7,8] [] zBJ (hT0)|exact qcA [0,1,2,3,4,5,6,7,8] [] zCd (hO)|exact qcA [1,2,3,4] [] zC3 (hB)|(refine aVMA zGO (hP) ?_)|refine ayA rfl ?_|apply ay (hd:=rfl)|(refine w0' ?_)|refine aStA ?_|refine zAJ rfl ?_|refine zAI rfl ?_|apply zAP|refine awDA ?_
 all_goals first|omega|skip
 all_goals exact zC5 ⟨rfl,zAU Le_nil (zJj rfl rfl rfl rfl rfl rfl (zBs rfl) (zBs rfl) (zBs rfl) rfl) rfl rfl⟩
theorem zbe(l:List RCl)(c:RCl): l.map enCl++[.agg [i64 c.at_,i64 c.base,w64 c.fn]]=(l++[c]).map enCl:=by rw[qAU];rfl
theorem zSz(m:Img)(r:Raw){f w:Nat}{tag n:Int}(ht:Top2 r f w)(hc:r.cls.length<1000)(hB:BlkQ r f 2 tag n true): zAW prog 44 [.ptr 0 0,.d (bl false)] (MX m r) .top (MX m { r with stk:=r.stk.take (r.stk.length-2)++[w],cls:=r.cls++[r.c],c:=⟨tag,(r.stk.length:Int)-2,f⟩ }):=by
 obtain⟨h2,hf,hw,hl⟩:=ht
 have hT1:=zCH m r (k:=1) (by omega) hf hl
 have hT0:=zCH m r (k:=0) (by omega) hw hl
 have hO:=zGf m r hB
 have hT:=zKP m r (n:=2) hl h2
 have l5:(r.stk.take (r.stk.length-2)).length=r.stk.length-2:=by rw[qAG];omega
 have hP:=zIw m { r with stk:=r.stk.take (r.stk.length-2),cls:=r.cls++[r.c],c:=⟨r.c.at_,(r.stk.length:Int)-2,r.c.fn⟩ } (w:=w) (by show (List.take _ _).length<=_;omega)
 have hcl:¬(r.cls.length:Int)=1000:=by omega
 have ez:(((r.stk.take (r.stk.length-2)).length:Nat):Int)=(r.stk.length:Int)-2:=by omega
 refine zBr func44 rfl ntmps44 results44 rfl ?_
 intro wb St0 X fx
 repeat' first|(refine zLs (rid:=7) [.ptr 0 0,.ptr 0 0,.ptr 0 0,.ptr 0 (0+7),.buf 6 r.cls.length,.ptr 0 0,.ptr 0 0,.ptr 0 (0+4),.d (.agg [i64 r.c.at_,i64 r.c.base,w64 r.c.fn]),.d (.slice [.agg [i64 r.c.at_,i64 r.c.base,w64 r.c.fn]]),.top] 10 6 (by kernel_rfl) (by kernel_rfl) rfl rfl rfl (.inr (by kernel_rfl)) ⟨.inr ⟨⟨rfl,zAQ rfl⟩,rfl,rfl,.inr ⟨rfl,rfl,zAQ rfl⟩⟩,⟨.inr ⟨⟨rfl,zAQ rfl⟩,rfl,rfl,.inl (by kernel_rfl)⟩,⟨.inr ⟨⟨rfl,zAa rfl⟩,rfl,rfl,.inl (by kernel_rfl)⟩,⟨.inr ⟨⟨rfl,zAF rfl zEL⟩,rfl,rfl,.inl (by kernel_rfl)⟩,⟨.inr ⟨⟨rfl,zAG rfl zCP rfl rfl⟩,rfl,rfl,.inl (by kernel_rfl)⟩,⟨.inr ⟨⟨rfl,zAQ rfl⟩,rfl,rfl,.inl (by kernel_rfl)⟩,⟨.inr ⟨⟨rfl,zAa rfl⟩,rfl,rfl,.inl (by kernel_rfl)⟩,⟨.inr ⟨⟨rfl,zAF rfl zCx⟩,rfl,rfl,.inl (by kernel_rfl)⟩,⟨.inr ⟨⟨rfl,zAT rfl zCc rfl rfl rfl⟩,rfl,rfl,.inl (by kernel_rfl)⟩,⟨.inr ⟨⟨rfl,zCA zNs zFP zWM rfl rfl (zAN rfl zAH) rfl⟩,rfl,rfl,.inl (by kernel_rfl)⟩,⟨.inl rfl,trivial⟩⟩⟩⟩⟩⟩⟩⟩⟩⟩⟩ rfl rfl rfl (qAC _).symm rfl zNs zFP zWS zWZ rfl rfl (zCu rfl) (by simp only[qAN,qAj];omega) ?_)|(refine zEk (id:=9) (s:=[(0,.ptr 0 0),(4,.d (w64 f)),(5,.d (w64 w))]) (h:=MA fx m { r with stk:=r.stk.take (r.stk.length-2),cls:=r.cls++[r.c],c:=⟨r.c.at_,(r.stk.length:Int)-2,r.c.fn⟩ }) (zAU (Le_all rfl) (zFl rfl (by rw[<-ez];rfl) rfl qAE rfl rfl rfl rfl rfl rfl rfl rfl (zBs rfl) (zBs (congrArg (Ob.buf true _ 3) (zbe r.cls r.c).symm)) (zBs rfl) rfl) rfl rfl) ?_)|apply en_n|apply zAE|apply zAA|apply zAB|apply w0|(refine zCJ (by kernel_rfl) ?_;refine aStA ?_)|exact qcA [0,1,2,3,4,5,6,7,8] [] zBJ (hT1)|exact qcA [0,1,2,3,4,5,6,7,8] [] zBJ (hT0)|exact qcA [0,1,2,3,4,5,6,7,8] [] zCd (hO)|exact qcA [1,2,3,4] [] zC3 (hB)|(refine aVMA zIT (hT) ?_)|(refine aVMA zGO (hP) ?_)|refine ayA rfl ?_|refine ayQ rfl ?_|apply ay (hd:=rfl)|refine w1 rfl rfl ?_|(refine w0' ?_)|refine aStA ?_|refine zAI rfl ?_|apply zAP
 all_goals first|omega|skip
 all_goals exact zC5 ⟨rfl,zAU Le_nil (zJj rfl rfl rfl rfl rfl rfl (zBs rfl) (zBs rfl) (zBs rfl) rfl) rfl rfl⟩
end
section
open _root_.Go.Proofs.Tryz
def rcl(all:List Thing)(ly:List Nat)(c:Cl): RCl:=⟨c.at_,c.base,wdN all ly c.fun_⟩
def rty(all:List Thing)(ly:List Nat)(t:Ty): RTy:=⟨rcl all ly t.c,t.height,t.calls⟩
def rawS(s:St)(oth:List Nat): Raw:=⟨s.words,zCG s.all s.ly,oth,begL s.all s.ly s.words.toNat,s.stack.map (wdN s.all s.ly),rcl s.all s.ly s.c,s.calls.map (rcl s.all s.ly),s.tries.map (rty s.all s.ly),s.fin,s.num,s.out,s.steps⟩
attribute [local irreducible] zAL Program.underlying Ylds zA2 alex zBZ zBP awp zAb zBh zBg zAW zBF zAp zCO zBG zBR zAr zBV zBY zBe zCQ zBM zA8 zBE
theorem zX3(m:Img)(r:Raw)(a:Int){w:Nat}(h1:1<=r.stk.length)(hw:r.stk[r.stk.length-1-0]?=some w)(hl:r.stk.length<=1048576)(hO:zAW prog 52 [.ptr 0 0,.d (w64 w),.d (i64 1)] (MX m r) (.d (bl false)) (MX m { r with fin:=4 })): zAW prog 47 [.ptr 0 0,.d (i64 a)] (MX m r) .top (MX m { r with fin:=4 }):=by
 have hT0:=zCH m r (k:=0) (by omega) hw hl
 refine zBr func47 rfl ntmps47 results47 rfl ?_
 intro wb St0 X fx
 exact yR
theorem zVE(m:Img)(r:Raw)(a:Int){w:Nat}{tag n:Int}(h1:1<=r.stk.length)(hw:r.stk[r.stk.length-1-0]?=some w)(hl:r.stk.length<=1048576)(hB:BlkQ r w 1 tag n true)(hP:zAp prog 41 [.ptr 0 0,.d (w64 w),.d (i64 a)] (HO r.size r.now r.oth r.beg) (.tup [w64 0,bl false])): zAW prog 47 [.ptr 0 0,.d (i64 a)] (MX m r) .top (MX m { r with fin:=4 }):=by
 have hT0:=zCH m r (k:=0) (by omega) hw hl
 have hO:=zGf m r hB
 have hS:=zFv m r 4
 refine zBr func47 rfl ntmps47 results47 rfl ?_
 intro wb St0 X fx
 exact yN
theorem zX2(m:Img)(r:Raw)(a:Int){w x:Nat}{tag n:Int}(h1:1<=r.stk.length)(hw:r.stk[r.stk.length-1-0]?=some w)(hl:r.stk.length<=1048576)(hB:BlkQ r w 1 tag n true)(hP:zAp prog 41 [.ptr 0 0,.d (w64 w),.d (i64 a)] (HO r.size r.now r.oth r.beg) (.tup [w64 x,bl true])): zAW prog 47 [.ptr 0 0,.d (i64 a)] (MX m r) .top (MX m { r with stk:=r.stk.take (r.stk.length-1)++[x] }):=by
 have hT0:=zCH m r (k:=0) (by omega) hw hl
 have hO:=zGf m r hB
 have hS:=zGA m r (n:=1) (w:=x) hl h1
 refine zBr func47 rfl ntmps47 results47 rfl ?_
 intro wb St0 X fx
 exact yR
theorem zYj(l:List Nat)(hl:l.length<=1048576): zCO prog 129 [.buf 0 l.length] [.buf true 58 1 (w64s l)] l.length 58 1 (w64s l):=by
 refine zRI func129 rfl ntmps129 results129 rfl ?_
 intro wb St0
 have e3:w64s l=([]:List D).take 0++((w64s l).drop 0).take l.length:=by
  show _=[]++_
  rw[qBj,List.drop_zero,qAe (qA2 (zAq l))]
 rcases Nat.eq_zero_or_pos l.length with h0|h0
 ·skip
  repeat' first|(refine zPf ?_)|(apply zJ6;(with_reducible exact zCh);(with_reducible exact zBk);(with_reducible exact zHs);exact rfl;exact rfl;exact rfl;refine zHG 1 rfl ?_)|apply en_n|apply zAE|apply zAA|apply zAB|apply w0|(refine zVr (id:=1) (id2:=0) (mu2:=true) (ys:=w64s l) rfl rfl (qAQ _) (fun c=>by cases c) rfl rfl (by rw[zAq,qAY];exact qAP _) (by with_reducible exact zCh) (by with_reducible exact zBk) (by with_reducible exact zGE) (by with_reducible exact zEm) (zIp _) ?_ rfl rfl ?_)|exact zYa rfl rfl zDF|(refine zLt rfl ?_ ?_)|refine ayA rfl ?_|apply ay (hd:=rfl)|apply zAP
  all_goals first|omega|skip
  ·refine Stop.go ?_
   refine zAM ?_
   refine en_r ?_
   have e:l=[]:=List.length_eq_zero_iff.1 h0
   subst e
   exact zHC ⟨_,rfl,.inl ⟨rfl,rfl,rfl⟩⟩
  ·refine Stop.go ?_
   refine zAM ?_
   refine zHC ⟨_,rfl,.inr ⟨1,rfl,?_,?_⟩⟩
   ·show SV.buf 1 (0+l.length)=_;rw[qAY]
   ·exact congrArg (fun x=>some (Ob.buf true 58 1 x)) e3.symm
 ·skip
  repeat' first|(refine zPf ?_)|(apply zJ6;(with_reducible exact zCh);(with_reducible exact zBk);(with_reducible exact zHs);exact rfl;exact rfl;exact rfl;refine zHG 1 rfl ?_)|apply en_n|apply zAE|apply zAA|apply zAB|apply w0|(refine zVr (id:=1) (id2:=0) (mu2:=true) (ys:=w64s l) rfl rfl (qAQ _) (fun c=>by cases c) rfl rfl (by rw[zAq,qAY];exact qAP _) (by with_reducible exact zCh) (by with_reducible exact zBk) (by with_reducible exact zGE) (by with_reducible exact zEm) (zIp _) ?_ rfl rfl ?_)|(apply zVy;exact rfl;exact rfl;(with_reducible exact zDF);exact rfl;(rw[zAq];exact qAP _);exact h0)|refine ayA rfl ?_|apply ay (hd:=rfl)|refine zAI rfl ?_|apply zAP
  all_goals first|omega|skip
  ·refine Stop.go ?_
   refine zAM ?_
   refine zHC ⟨_,rfl,.inr ⟨1,rfl,?_,?_⟩⟩
   ·show SV.buf 1 (0+l.length)=_;rw[qAY]
   ·exact congrArg (fun x=>some (Ob.buf true 58 1 x)) e3.symm
end
section
theorem zXE(s:St)(e:Int)(oth:List Nat): rawS (s.stop e) oth = { rawS s oth with fin:=e }:=rfl
theorem zBd(s:St)(oth:List Nat): (rawS s oth).stk.length=s.stack.length:=qAC _
theorem zIv(s:St)(oth:List Nat): (rawS s oth).cls.length=s.calls.length:=qAC _
theorem zLH(s:St)(oth:List Nat): (rawS s oth).trs.length=s.tries.length:=qAC _
theorem zFG(s:St)(n:Nat)(r:Rf)(oth:List Nat): rawS (s.instead n r) oth = { rawS s oth with stk:=(rawS s oth).stk.take ((rawS s oth).stk.length-n)++[wdN s.all s.ly r] }:=by
 simp only[rawS,St.instead,qAU,qBh,qAr,qBf,qAC]
theorem zQr(s:St)(r:Rf)(oth:List Nat): rawS (s.instead 0 r) oth = { rawS s oth with stk:=(rawS s oth).stk++[wdN s.all s.ly r] }:=by
 rw[zFG,Nat.sub_zero,qAw]
theorem zKU(s:St)(n:Nat)(x:Int)(oth:List Nat): rawS (s.numI n x) oth = { rawS s oth with stk:=(rawS s oth).stk.take ((rawS s oth).stk.length-n)++[nW x] }:=zFG s n (numR x) oth
theorem zQq(s:St)(n:Nat)(oth:List Nat): rawS { s with stack:=s.stack.take (s.stack.length-n) } oth = { rawS s oth with stk:=(rawS s oth).stk.take ((rawS s oth).stk.length-n) }:=by
 simp only[rawS,qBh,qAC]
theorem zGK(s:St)(oth:List Nat){k:Nat}(h:k<s.stack.length): (rawS s oth).stk[(rawS s oth).stk.length-1-k]?=some (wdN s.all s.ly (s.top k)):=by
 rw[zBd]
 show (s.stack.map (wdN s.all s.ly))[s.stack.length-1-k]?=_
 have hl:s.stack.length-1-k<s.stack.length:=by omega
 rw[qAH,St.top,qAD,qAB hl]
 rfl
theorem zOE(s:St)(n:Int)(oth:List Nat)(h:s.tries=[]): rawS (s.raise n) oth = { rawS s oth with num:=n,fin:=2 }:=by
 have h':s.tries.getLast? = none:=by rw[h];rfl
 rw[St.raise,h'];rfl
theorem zT3(s:St)(n:Int)(oth:List Nat){t:Ty}(h:s.tries.getLast? = some t):
  rawS (s.raise n) oth = { rawS s oth with stk:=(rawS s oth).stk.take (rty s.all s.ly t).height.toNat++[nW n],c:=(rty s.all s.ly t).c,cls:=(rawS s oth).cls.take (rty s.all s.ly t).calls.toNat,trs:=(rawS s oth).trs.dropLast }:=by
 rw[St.raise,h]
 simp only[rawS,rty,qAU,qBh,qAr,qBf,List.map_dropLast,zek]
theorem zXF(s:St)(oth:List Nat){t:Ty}(h:s.tries.getLast? = some t): (rawS s oth).trs.getLast? = some (rty s.all s.ly t):=by
 show (s.tries.map (rty s.all s.ly)).getLast? = _
 rw[List.getLast?_map,h];rfl
theorem zXH(s:St)(oth:List Nat){c:Cl}(h:s.calls.getLast? = some c):
  rawS { s with stack:=s.stack.take s.c.base.toNat++[s.top 0],c:=(s.calls.getLast?).getD default,calls:=s.calls.dropLast } oth = { rawS s oth with stk:=(rawS s oth).stk.take (rawS s oth).c.base.toNat++[wdN s.all s.ly (s.top 0)],c:=rcl s.all s.ly c,cls:=(rawS s oth).cls.dropLast }:=by
 rw[h]
 simp only[rawS,rcl,qAU,qBh,qAr,qBf,List.map_dropLast,qBY]
theorem zaP(s:St)(a:Int)(oth:List Nat):
  rawS { s with tries:=s.tries++[⟨{ s.c with at_:=a },s.stack.length,s.calls.length⟩] } oth = { rawS s oth with trs:=(rawS s oth).trs++[⟨{ (rawS s oth).c with at_:=a },((rawS s oth).stk.length:Int),((rawS s oth).cls.length:Int)⟩] }:=by
 simp only[rawS,rty,rcl,qAU,qAr,qBf,qAC]
theorem zaQ(s:St)(oth:List Nat): rawS { s with tries:=s.tries.dropLast } oth = { rawS s oth with trs:=(rawS s oth).trs.dropLast }:=by
 simp only[rawS,List.map_dropLast]
theorem zXD(s:St)(oth:List Nat)(tag:Int)(f x:Rf):
  rawS { s with stack:=s.stack.take s.c.base.toNat++[x],c:=⟨tag,s.c.base,f⟩ } oth = { rawS s oth with stk:=(rawS s oth).stk.take (rawS s oth).c.base.toNat++[wdN s.all s.ly x],c:=⟨tag,(rawS s oth).c.base,wdN s.all s.ly f⟩ }:=by
 simp only[rawS,rcl,qAU,qBh,qAr,qBf]
theorem zXG(s:St)(oth:List Nat)(tag:Int)(f x:Rf):
  rawS { s with calls:=s.calls++[s.c],stack:=s.stack.take (s.stack.length-2)++[x],c:=⟨tag,(s.stack.length:Int)-2,f⟩ } oth = { rawS s oth with stk:=(rawS s oth).stk.take ((rawS s oth).stk.length-2)++[wdN s.all s.ly x],cls:=(rawS s oth).cls++[(rawS s oth).c],c:=⟨tag,((rawS s oth).stk.length:Int)-2,wdN s.all s.ly f⟩ }:=by
 simp only[rawS,rcl,qAU,qBh,qAr,qBf,qAC]
open _root_.Go.Proofs.Tryz
def setC(l:List RCl)(w:List Nat): List RCl:=List.zipWith (fun c f=>{ c with fn:=f }) l w
def setT(l:List RTy)(w:List Nat): List RTy:=List.zipWith (fun t f=>{ t with c:={ t.c with fn:=f } }) l w
def mixC(l:List RCl)(w:List Nat)(i:Nat): List RCl:=setC (l.take i) w++l.drop i
def mixT(l:List RTy)(w:List Nat)(i:Nat): List RTy:=setT (l.take i) w++l.drop i
theorem zdJ(l:List RCl)(w:List Nat): mixC l w 0=l:=by simp[mixC,setC]
theorem zdI(l:List RTy)(w:List Nat): mixT l w 0=l:=by simp[mixT,setT]
theorem zXk(l:List RCl)(w:List Nat): mixC l w l.length=setC l w:=by simp[mixC]
theorem zXi(l:List RTy)(w:List Nat): mixT l w l.length=setT l w:=by simp[mixT]
theorem zQ6(l:List RCl)(w:List Nat)(i:Nat)(h:l.length<=w.length): (mixC l w i).length=l.length:=by
 simp only[mixC,setC,qAE,qBl,qAG,qAd];omega
theorem zQ5(l:List RTy)(w:List Nat)(i:Nat)(h:l.length<=w.length): (mixT l w i).length=l.length:=by
 simp only[mixT,setT,qAE,qBl,qAG,qAd];omega
theorem za0{l:List RCl}{w:List Nat}{i:Nat}{c:RCl}(h:l[i]?=some c)(hw:l.length<=w.length): (mixC l w i)[i]?=some c:=by
 obtain⟨hl,e⟩:=qAA.1 h
 unfold mixC
 rw[qAJ (by simp only[setC,qBl,qAG];omega),show i-(setC (l.take i) w).length=0 by simp only[setC,qBl,qAG];omega,qAl,qA6,h]
theorem zaz{l:List RTy}{w:List Nat}{i:Nat}{c:RTy}(h:l[i]?=some c)(hw:l.length<=w.length): (mixT l w i)[i]?=some c:=by
 obtain⟨hl,e⟩:=qAA.1 h
 unfold mixT
 rw[qAJ (by simp only[setT,qBl,qAG];omega),show i-(setT (l.take i) w).length=0 by simp only[setT,qBl,qAG];omega,qAl,qA6,h]
theorem zMg{α β γ:Type}(f:α->β->γ): ∀(l:List α) (w:List β) (i:Nat) (a:α) (b:β),l[i]?=some a->w[i]?=some b->List.zipWith f (l.take (i+1)) w=List.zipWith f (l.take i) w++[f a b]
 |a::l,b::w,0,a',b',h1,h2=>by simp at h1 h2;subst h1;subst h2;simp
 |a::l,b::w,i+1,a',b',h1,h2=>by
  rw[List.take_succ_cons,List.take_succ_cons,List.zipWith_cons_cons,List.zipWith_cons_cons,zMg f l w i a' b' (by simpa using h1) (by simpa using h2)];rfl
 |[],_,_,_,_,h1,_=>by simp at h1
 |_::_,[],_,_,_,_,h2=>by simp at h2
theorem zXj{l:List RCl}{w:List Nat}{i:Nat}{c:RCl}{f:Nat}(h:l[i]?=some c)(hf:w[i]?=some f)(hw:l.length<=w.length): ((mixC l w i).map enCl).set i (.agg [i64 c.at_,i64 c.base,w64 f])=(mixC l w (i+1)).map enCl:=by
 obtain⟨hl,e⟩:=qAA.1 h
 have hd:l.drop i=c::l.drop (i+1):=by rw[qA9 hl,e]
 have hle:((setC (l.take i) w).map enCl).length=i:=by simp only[setC,qAC,qBl,qAG];omega
 unfold mixC
 rw[qAU,hd,qAr,qBX _ _ (by omega),hle,qBM,qBo,qAU]
 show _=(setC (l.take (i+1)) w).map enCl++_
 unfold setC
 rw[zMg _ l w i c f h hf,qAU,qAg]
 rfl
theorem zXh{l:List RTy}{w:List Nat}{i:Nat}{c:RTy}{f:Nat}(h:l[i]?=some c)(hf:w[i]?=some f)(hw:l.length<=w.length): ((mixT l w i).map enTy).set i (.agg [i64 c.c.at_,i64 c.c.base,w64 f,i64 c.height,i64 c.calls])=(mixT l w (i+1)).map enTy:=by
 obtain⟨hl,e⟩:=qAA.1 h
 have hd:l.drop i=c::l.drop (i+1):=by rw[qA9 hl,e]
 have hle:((setT (l.take i) w).map enTy).length=i:=by simp only[setT,qAC,qBl,qAG];omega
 unfold mixT
 rw[qAU,hd,qAr,qBX _ _ (by omega),hle,qBM,qBo,qAU]
 show _=(setT (l.take (i+1)) w).map enTy++_
 unfold setT
 rw[zMg _ l w i c f h hf,qAU,qAg]
 rfl
def rtsR(r:Raw): List Nat:=r.stk++[r.c.fn]++r.cls.map (·.fn)++r.trs.map (·.c.fn)
def gcR(r:Raw)(now oth:List Nat)(beg:List Bool)(w:List Nat): Raw:={ r with now:=now,oth:=oth,beg:=beg,stk:=w.take r.stk.length,c:={ r.c with fn:=w.getD r.stk.length 0 },cls:=setC r.cls (w.drop (r.stk.length+1)),trs:=setT r.trs (w.drop (r.stk.length+1+r.cls.length)) }
theorem zL2{fx:Nat->Option Nat}{m:Img}{r:Raw}{o:Ob}{η:List Ob}{o':Ob}{q:List Ob}(e:η=MA fx m r++o'::q)(w:WOb o o'): Pre (MA fx m r++[o]) η:=by
 subst e
 have:∀l:List Ob,Pre (l++[o]) (l++o'::q):=fun l=>by
  induction l with
  |nil=>exact⟨w,trivial⟩
  |cons a t ih=>exact⟨fun _ _ _ h=>h,ih⟩
 exact this _
attribute [local irreducible] zAL Program.underlying Ylds zA2 alex zBZ zBP awp zAb zBh zBg zAW zBF zAp zBG zBR zAr zBV zBY zBe zBM zA8 zBE
theorem zW8(m:Img)(r:Raw)(n:Int)(hs:0<=r.size/\r.size<=1048576)(hn:r.now.length<=1048576)(h:n<=r.size-(r.now.length:Int)): zAp prog 76 [.ptr 0 0,.d (i64 n)] (MX m r) (bl true):=by
 have hL:=zL4 r.size r.now r.oth r.beg ⟨hs.1,hs.2,hn⟩
 refine zCq func76 rfl ntmps76 results76 rfl ?_
 intro wb St0
 exact yM
