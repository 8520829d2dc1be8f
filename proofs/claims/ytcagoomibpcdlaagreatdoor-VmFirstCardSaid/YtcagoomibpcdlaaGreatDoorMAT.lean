/- Parts of the proof. -/
import Derived.Test.YtcagoomibpcdlaaGreatDoorMAS
set_option maxHeartbeats 16000000
namespace Go.Proofs.YtcagoomibpcdlaaGreatDoor
open _root_.Go.Proofs.Tryz
open Go.Sx Go.Vm
def rcl(all:List Thing)(ly:List Nat)(c:Cl): RCl:=⟨c.at_,c.base,wdN all ly c.fun_⟩
def rty(all:List Thing)(ly:List Nat)(t:Ty): RTy:=⟨rcl all ly t.c,t.height,t.calls⟩
def rawS(s:St)(oth:List Nat): Raw:=⟨s.words,zBs s.all s.ly,oth,begL s.all s.ly s.words.toNat,s.stack.map (wdN s.all s.ly),rcl s.all s.ly s.c,s.calls.map (rcl s.all s.ly),s.tries.map (rty s.all s.ly),s.fin,s.num,s.out,s.steps⟩
attribute [local irreducible] zAN Program.underlying Ylds zA9 alex zB3 zBf awp zAi zCC zCB zAU zBl zAz zDt zBq zBj zBB zBr zB2 zB8 zD7 zBi zBd zBg
theorem zUJ(m:Img)(r:Raw)(a:Int){w:Nat}(h1:1<=r.stk.length)(hw:r.stk[r.stk.length-1-0]?=some w)(hl:r.stk.length<=1048576)(hO:zAU prog 52 [.ptr 0 0,.d (w64 w),.d (i64 1)] (MX m r) (.d (bl false)) (MX m { r with fin:=4 })): zAU prog 47 [.ptr 0 0,.d (i64 a)] (MX m r) .top (MX m { r with fin:=4 }):=by
 have hT0:=zBt m r (k:=0) (by omega) hw hl
 refine zAx func47 rfl ntmps47 results47 rfl ?_
 intro wb St0 X fx
 repeat' first|apply en_n|apply zAH|apply zAA|apply zAD|apply w0|(refine zAW [0,1,2,3,4,5,6,7,8] [] rfl rfl zAr (hT0) rfl (SArgs_all rfl) rfl (by decide) rfl rfl rfl rfl)|(refine aVM zCP (hO) (SArgs_all rfl) rfl rfl ?_)|apply ay (hd:=rfl)|exact zBX rfl|exact zAG rfl|refine zAI rfl ?_|apply zAQ|apply en_r
 all_goals exact zDT rfl
theorem zRb(m:Img)(r:Raw)(a:Int){w:Nat}{tag n:Int}(h1:1<=r.stk.length)(hw:r.stk[r.stk.length-1-0]?=some w)(hl:r.stk.length<=1048576)(hB:BlkQ r w 1 tag n true)(hP:zAz prog 41 [.ptr 0 0,.d (w64 w),.d (i64 a)] (HO r.size r.now r.oth r.beg) (.tup [w64 0,bl false])): zAU prog 47 [.ptr 0 0,.d (i64 a)] (MX m r) .top (MX m { r with fin:=4 }):=by
 have hT0:=zBt m r (k:=0) (by omega) hw hl
 have hO:=zFQ m r hB
 have hS:=zEq m r 4
 refine zAx func47 rfl ntmps47 results47 rfl ?_
 intro wb St0 X fx
 repeat' first|apply en_n|apply zAH|apply zAA|apply zAD|apply w0|exact zAK rfl|(refine zAW [0,1,2,3,4,5,6,7,8] [] rfl rfl zAr (hT0) rfl (SArgs_all rfl) rfl (by decide) rfl rfl rfl rfl)|(refine zAW [0,1,2,3,4,5,6,7,8] [] rfl rfl zCP (hO) rfl (SArgs_all rfl) rfl (by decide) rfl rfl rfl rfl)|(refine zAW [1,2,3,4] [] rfl rfl zE2 (hP) rfl (SArgs_all rfl) rfl (by decide) rfl rfl rfl rfl)|(refine aVM zDK (hS) (SArgs_all rfl) rfl rfl ?_)|apply ay (hd:=rfl)|exact zAF rfl|exact zAB rfl|exact zBX rfl|exact zAg rfl rfl|exact zAG rfl|exact zAC rfl zBS|exact zAE rfl zBn rfl rfl|refine zAI rfl ?_|refine zAJ rfl ?_|apply zAS|apply zAQ|refine zAj (by kernel_rfl) (by kernel_rfl) ?_|apply en_r
 all_goals exact zDT rfl
theorem zUI(m:Img)(r:Raw)(a:Int){w x:Nat}{tag n:Int}(h1:1<=r.stk.length)(hw:r.stk[r.stk.length-1-0]?=some w)(hl:r.stk.length<=1048576)(hB:BlkQ r w 1 tag n true)(hP:zAz prog 41 [.ptr 0 0,.d (w64 w),.d (i64 a)] (HO r.size r.now r.oth r.beg) (.tup [w64 x,bl true])): zAU prog 47 [.ptr 0 0,.d (i64 a)] (MX m r) .top (MX m { r with stk:=r.stk.take (r.stk.length-1)++[x] }):=by
 have hT0:=zBt m r (k:=0) (by omega) hw hl
 have hO:=zFQ m r hB
 have hS:=zE4 m r (n:=1) (w:=x) hl h1
 refine zAx func47 rfl ntmps47 results47 rfl ?_
 intro wb St0 X fx
 repeat' first|apply en_n|apply zAH|apply zAA|apply zAD|apply w0|exact zAK rfl|(refine zAW [0,1,2,3,4,5,6,7,8] [] rfl rfl zAr (hT0) rfl (SArgs_all rfl) rfl (by decide) rfl rfl rfl rfl)|(refine zAW [0,1,2,3,4,5,6,7,8] [] rfl rfl zCP (hO) rfl (SArgs_all rfl) rfl (by decide) rfl rfl rfl rfl)|(refine zAW [1,2,3,4] [] rfl rfl zE2 (hP) rfl (SArgs_all rfl) rfl (by decide) rfl rfl rfl rfl)|(refine aVM zD4 (hS) (SArgs_all rfl) rfl rfl ?_)|apply ay (hd:=rfl)|exact zAF rfl|exact zAB rfl|exact zBX rfl|exact zAg rfl rfl|exact zAG rfl|exact zAC rfl zBS|exact zAE rfl zBn rfl rfl|refine zAJ rfl ?_|apply zAS|refine zAj (by kernel_rfl) (by kernel_rfl) ?_
 all_goals exact zEE rfl
theorem zUs(l:List Nat)(hl:l.length<=1048576): zDt prog 129 [.buf 0 l.length] [.buf true 58 1 (w64s l)] l.length 58 1 (w64s l):=by
 refine zOI func129 rfl ntmps129 results129 rfl ?_
 intro wb St0
 have e3:w64s l=([]:List D).take 0++((w64s l).drop 0).take l.length:=by
  show _=[]++_
  rw[qBq,List.drop_zero,qAi (qA0 (zAl l))]
 rcases Nat.eq_zero_or_pos l.length with h0|h0
 ·skip
  repeat' first|(refine zMr ?_)|(apply zPs;(with_reducible exact zCS);(with_reducible exact zBQ);(with_reducible exact zGM);exact rfl;exact rfl;exact rfl;refine zHu 1 rfl ?_)|apply en_n|apply zAH|apply zAA|apply zAD|apply w0|(refine zR7 (id:=1) (id2:=0) (mu2:=true) (ys:=w64s l) rfl rfl (qAX _) (fun c=>by cases c) rfl rfl (by rw[zAl,qAU];exact qAN _) (by with_reducible exact zCS) (by with_reducible exact zBQ) (by with_reducible exact zE6) (by with_reducible exact zD0) (zHA _) ?_ rfl rfl ?_)|exact zUk rfl rfl zCq|(refine zJi rfl ?_ ?_)|apply ay (hd:=rfl)|exact zCD rfl|exact zBP rfl|exact zAy rfl|apply zAS
  all_goals first|omega|skip
  ·refine Stop.go ?_
   refine zAQ ?_
   refine en_r ?_
   have e:l=[]:=List.length_eq_zero_iff.1 h0
   subst e
   exact zFs ⟨_,rfl,.inl ⟨rfl,rfl,rfl⟩⟩
  ·refine Stop.go ?_
   refine zAQ ?_
   refine zFs ⟨_,rfl,.inr ⟨1,rfl,?_,?_⟩⟩
   ·show SV.buf 1 (0+l.length)=_;rw[qAU]
   ·exact congrArg (fun x=>some (Ob.buf true 58 1 x)) e3.symm
 ·skip
  repeat' first|(refine zMr ?_)|(apply zPs;(with_reducible exact zCS);(with_reducible exact zBQ);(with_reducible exact zGM);exact rfl;exact rfl;exact rfl;refine zHu 1 rfl ?_)|apply en_n|apply zAH|apply zAA|apply zAD|apply w0|(refine zR7 (id:=1) (id2:=0) (mu2:=true) (ys:=w64s l) rfl rfl (qAX _) (fun c=>by cases c) rfl rfl (by rw[zAl,qAU];exact qAN _) (by with_reducible exact zCS) (by with_reducible exact zBQ) (by with_reducible exact zE6) (by with_reducible exact zD0) (zHA _) ?_ rfl rfl ?_)|(apply zSG;exact rfl;exact rfl;(with_reducible exact zCq);exact rfl;(rw[zAl];exact qAN _);exact h0)|apply ay (hd:=rfl)|exact zCD rfl|exact zBP rfl|exact zAy rfl|refine zAJ rfl ?_|apply zAS
  all_goals first|omega|skip
  ·refine Stop.go ?_
   refine zAQ ?_
   refine zFs ⟨_,rfl,.inr ⟨1,rfl,?_,?_⟩⟩
   ·show SV.buf 1 (0+l.length)=_;rw[qAU]
   ·exact congrArg (fun x=>some (Ob.buf true 58 1 x)) e3.symm
end Go.Proofs.YtcagoomibpcdlaaGreatDoor
namespace Go.Proofs.YtcagoomibpcdlaaGreatDoor
open Go.Sx Go.Vm
theorem zTR(s:St)(e:Int)(oth:List Nat): rawS (s.stop e) oth = { rawS s oth with fin:=e }:=rfl
theorem zBM(s:St)(oth:List Nat): (rawS s oth).stk.length=s.stack.length:=qAC _
theorem zHC(s:St)(oth:List Nat): (rawS s oth).cls.length=s.calls.length:=qAC _
theorem zJB(s:St)(oth:List Nat): (rawS s oth).trs.length=s.tries.length:=qAC _
theorem zEK(s:St)(n:Nat)(r:Rf)(oth:List Nat): rawS (s.instead n r) oth = { rawS s oth with stk:=(rawS s oth).stk.take ((rawS s oth).stk.length-n)++[wdN s.all s.ly r] }:=by
 simp only[rawS,St.instead,qAk,qBX,qAr,qBj,qAC]
theorem zNt(s:St)(r:Rf)(oth:List Nat): rawS (s.instead 0 r) oth = { rawS s oth with stk:=(rawS s oth).stk++[wdN s.all s.ly r] }:=by
 rw[zEK,Nat.sub_zero,qA4]
theorem zIk(s:St)(n:Nat)(x:Int)(oth:List Nat): rawS (s.numI n x) oth = { rawS s oth with stk:=(rawS s oth).stk.take ((rawS s oth).stk.length-n)++[nW x] }:=zEK s n (numR x) oth
theorem zNs(s:St)(n:Nat)(oth:List Nat): rawS { s with stack:=s.stack.take (s.stack.length-n) } oth = { rawS s oth with stk:=(rawS s oth).stk.take ((rawS s oth).stk.length-n) }:=by
 simp only[rawS,qBX,qAC]
theorem zFB(s:St)(oth:List Nat){k:Nat}(h:k<s.stack.length): (rawS s oth).stk[(rawS s oth).stk.length-1-k]?=some (wdN s.all s.ly (s.top k)):=by
 rw[zBM]
 show (s.stack.map (wdN s.all s.ly))[s.stack.length-1-k]?=_
 have hl:s.stack.length-1-k<s.stack.length:=by omega
 rw[qAL,St.top,qAD,qAB hl]
 rfl
theorem zLc(s:St)(n:Int)(oth:List Nat)(h:s.tries=[]): rawS (s.raise n) oth = { rawS s oth with num:=n,fin:=2 }:=by
 have h':s.tries.getLast? = none:=by rw[h];rfl
 rw[St.raise,h'];rfl
theorem zQf(s:St)(n:Int)(oth:List Nat){t:Ty}(h:s.tries.getLast? = some t):
  rawS (s.raise n) oth = { rawS s oth with stk:=(rawS s oth).stk.take (rty s.all s.ly t).height.toNat++[nW n],c:=(rty s.all s.ly t).c,cls:=(rawS s oth).cls.take (rty s.all s.ly t).calls.toNat,trs:=(rawS s oth).trs.dropLast }:=by
 rw[St.raise,h]
 simp only[rawS,rty,qAk,qBX,qAr,qBj,List.map_dropLast,zZs]
theorem zTS(s:St)(oth:List Nat){t:Ty}(h:s.tries.getLast? = some t): (rawS s oth).trs.getLast? = some (rty s.all s.ly t):=by
 show (s.tries.map (rty s.all s.ly)).getLast? = _
 rw[List.getLast?_map,h];rfl
theorem zTU(s:St)(oth:List Nat){c:Cl}(h:s.calls.getLast? = some c):
  rawS { s with stack:=s.stack.take s.c.base.toNat++[s.top 0],c:=(s.calls.getLast?).getD default,calls:=s.calls.dropLast } oth = { rawS s oth with stk:=(rawS s oth).stk.take (rawS s oth).c.base.toNat++[wdN s.all s.ly (s.top 0)],c:=rcl s.all s.ly c,cls:=(rawS s oth).cls.dropLast }:=by
 rw[h]
 simp only[rawS,rcl,qAk,qBX,qAr,qBj,List.map_dropLast,qBV]
theorem zWN(s:St)(a:Int)(oth:List Nat):
  rawS { s with tries:=s.tries++[⟨{ s.c with at_:=a },s.stack.length,s.calls.length⟩] } oth = { rawS s oth with trs:=(rawS s oth).trs++[⟨{ (rawS s oth).c with at_:=a },((rawS s oth).stk.length:Int),((rawS s oth).cls.length:Int)⟩] }:=by
 simp only[rawS,rty,rcl,qAk,qAr,qBj,qAC]
theorem zWO(s:St)(oth:List Nat): rawS { s with tries:=s.tries.dropLast } oth = { rawS s oth with trs:=(rawS s oth).trs.dropLast }:=by
 simp only[rawS,List.map_dropLast]
theorem zTQ(s:St)(oth:List Nat)(tag:Int)(f x:Rf):
  rawS { s with stack:=s.stack.take s.c.base.toNat++[x],c:=⟨tag,s.c.base,f⟩ } oth = { rawS s oth with stk:=(rawS s oth).stk.take (rawS s oth).c.base.toNat++[wdN s.all s.ly x],c:=⟨tag,(rawS s oth).c.base,wdN s.all s.ly f⟩ }:=by
 simp only[rawS,rcl,qAk,qBX,qAr,qBj]
theorem zTT(s:St)(oth:List Nat)(tag:Int)(f x:Rf):
  rawS { s with calls:=s.calls++[s.c],stack:=s.stack.take (s.stack.length-2)++[x],c:=⟨tag,(s.stack.length:Int)-2,f⟩ } oth = { rawS s oth with stk:=(rawS s oth).stk.take ((rawS s oth).stk.length-2)++[wdN s.all s.ly x],cls:=(rawS s oth).cls++[(rawS s oth).c],c:=⟨tag,((rawS s oth).stk.length:Int)-2,wdN s.all s.ly f⟩ }:=by
 simp only[rawS,rcl,qAk,qBX,qAr,qBj,qAC]
open _root_.Go.Proofs.Tryz
def setC(l:List RCl)(w:List Nat): List RCl:=List.zipWith (fun c f=>{ c with fn:=f }) l w
def setT(l:List RTy)(w:List Nat): List RTy:=List.zipWith (fun t f=>{ t with c:={ t.c with fn:=f } }) l w
def mixC(l:List RCl)(w:List Nat)(i:Nat): List RCl:=setC (l.take i) w++l.drop i
def mixT(l:List RTy)(w:List Nat)(i:Nat): List RTy:=setT (l.take i) w++l.drop i
theorem zYn(l:List RCl)(w:List Nat): mixC l w 0=l:=by simp[mixC,setC]
theorem zYm(l:List RTy)(w:List Nat): mixT l w 0=l:=by simp[mixT,setT]
theorem zTx(l:List RCl)(w:List Nat): mixC l w l.length=setC l w:=by simp[mixC]
theorem zTv(l:List RTy)(w:List Nat): mixT l w l.length=setT l w:=by simp[mixT]
theorem zN6(l:List RCl)(w:List Nat)(i:Nat)(h:l.length<=w.length): (mixC l w i).length=l.length:=by
 simp only[mixC,setC,qAE,qBd,qAJ,qAe];omega
theorem zN5(l:List RTy)(w:List Nat)(i:Nat)(h:l.length<=w.length): (mixT l w i).length=l.length:=by
 simp only[mixT,setT,qAE,qBd,qAJ,qAe];omega
theorem zWm{l:List RCl}{w:List Nat}{i:Nat}{c:RCl}(h:l[i]?=some c)(hw:l.length<=w.length): (mixC l w i)[i]?=some c:=by
 obtain⟨hl,e⟩:=qAA.1 h
 unfold mixC
 rw[qAG (by simp only[setC,qBd,qAJ];omega),show i-(setC (l.take i) w).length=0 by simp only[setC,qBd,qAJ];omega,qAh,qA3,h]
theorem zWl{l:List RTy}{w:List Nat}{i:Nat}{c:RTy}(h:l[i]?=some c)(hw:l.length<=w.length): (mixT l w i)[i]?=some c:=by
 obtain⟨hl,e⟩:=qAA.1 h
 unfold mixT
 rw[qAG (by simp only[setT,qBd,qAJ];omega),show i-(setT (l.take i) w).length=0 by simp only[setT,qBd,qAJ];omega,qAh,qA3,h]
theorem zKV{α β γ:Type}(f:α->β->γ): ∀(l:List α) (w:List β) (i:Nat) (a:α) (b:β),l[i]?=some a->w[i]?=some b->List.zipWith f (l.take (i+1)) w=List.zipWith f (l.take i) w++[f a b]
 |a::l,b::w,0,a',b',h1,h2=>by simp at h1 h2;subst h1;subst h2;simp
 |a::l,b::w,i+1,a',b',h1,h2=>by
  rw[List.take_succ_cons,List.take_succ_cons,List.zipWith_cons_cons,List.zipWith_cons_cons,zKV f l w i a' b' (by simpa using h1) (by simpa using h2)];rfl
 |[],_,_,_,_,h1,_=>by simp at h1
 |_::_,[],_,_,_,_,h2=>by simp at h2
theorem zTw{l:List RCl}{w:List Nat}{i:Nat}{c:RCl}{f:Nat}(h:l[i]?=some c)(hf:w[i]?=some f)(hw:l.length<=w.length): ((mixC l w i).map enCl).set i (.agg [i64 c.at_,i64 c.base,w64 f])=(mixC l w (i+1)).map enCl:=by
 obtain⟨hl,e⟩:=qAA.1 h
 have hd:l.drop i=c::l.drop (i+1):=by rw[qBD hl,e]
 have hle:((setC (l.take i) w).map enCl).length=i:=by simp only[setC,qAC,qBd,qAJ];omega
 unfold mixC
 rw[qAk,hd,qAr,qBN _ _ (by omega),hle,qBF,qBg,qAk]
 show _=(setC (l.take (i+1)) w).map enCl++_
 unfold setC
 rw[zKV _ l w i c f h hf,qAk,qAg]
 rfl
theorem zTu{l:List RTy}{w:List Nat}{i:Nat}{c:RTy}{f:Nat}(h:l[i]?=some c)(hf:w[i]?=some f)(hw:l.length<=w.length): ((mixT l w i).map enTy).set i (.agg [i64 c.c.at_,i64 c.c.base,w64 f,i64 c.height,i64 c.calls])=(mixT l w (i+1)).map enTy:=by
 obtain⟨hl,e⟩:=qAA.1 h
 have hd:l.drop i=c::l.drop (i+1):=by rw[qBD hl,e]
 have hle:((setT (l.take i) w).map enTy).length=i:=by simp only[setT,qAC,qBd,qAJ];omega
 unfold mixT
 rw[qAk,hd,qAr,qBN _ _ (by omega),hle,qBF,qBg,qAk]
 show _=(setT (l.take (i+1)) w).map enTy++_
 unfold setT
 rw[zKV _ l w i c f h hf,qAk,qAg]
 rfl
def rtsR(r:Raw): List Nat:=r.stk++[r.c.fn]++r.cls.map (·.fn)++r.trs.map (·.c.fn)
def gcR(r:Raw)(now oth:List Nat)(beg:List Bool)(w:List Nat): Raw:={ r with now:=now,oth:=oth,beg:=beg,stk:=w.take r.stk.length,c:={ r.c with fn:=w.getD r.stk.length 0 },cls:=setC r.cls (w.drop (r.stk.length+1)),trs:=setT r.trs (w.drop (r.stk.length+1+r.cls.length)) }
theorem zJt{fx:Nat->Option Nat}{m:Img}{r:Raw}{o:Ob}{η:List Ob}{o':Ob}{q:List Ob}(e:η=MA fx m r++o'::q)(w:WOb o o'): Pre (MA fx m r++[o]) η:=by
 subst e
 have:∀l:List Ob,Pre (l++[o]) (l++o'::q):=fun l=>by
  induction l with
  |nil=>exact⟨w,trivial⟩
  |cons a t ih=>exact⟨fun _ _ _ h=>h,ih⟩
 exact this _
attribute [local irreducible] zAN Program.underlying Ylds zA9 alex zB3 zBf awp zAi zCC zCB zAU zBl zAz zBq zBj zBB zBr zB2 zB8 zBi zBd zBg
theorem zTK(m:Img)(r:Raw)(n:Int)(hs:0<=r.size/\r.size<=1048576)(hn:r.now.length<=1048576)(h:n<=r.size-(r.now.length:Int)): zAz prog 76 [.ptr 0 0,.d (i64 n)] (MX m r) (bl true):=by
 have hL:=zJv r.size r.now r.oth r.beg ⟨hs.1,hs.2,hn⟩
 refine zCX func76 rfl ntmps76 results76 rfl ?_
 intro wb St0
 repeat' first|apply en_n|apply zAH|apply zAA|apply zAD|apply w0|exact zJo rfl rfl|exact zAK rfl|(refine zAW [1,2,3,4] [] rfl rfl zE3 (hL) rfl (SArgs_all rfl) rfl (by decide) rfl rfl rfl rfl)|apply ay (hd:=rfl)|exact zAF rfl|exact zAB rfl|exact zAG rfl|exact zAC rfl zBS|exact zAE rfl zBn rfl rfl|refine zAI rfl ?_|apply zAQ|apply en_r|apply zAR|refine res1 rfl ?_
 all_goals first|omega|rfl
end Go.Proofs.YtcagoomibpcdlaaGreatDoor
