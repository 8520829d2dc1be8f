/- Parts of the proof. -/
import Derived.Test.YtcagoomibpcdlaaGreatDoorMAQ
set_option maxHeartbeats 16000000
namespace Go.Proofs.YtcagoomibpcdlaaGreatDoor
open _root_.Go.Proofs.Tryz
open Go.Sx Go.Vm
def rcl(all:List Thing)(ly:List Nat)(c:Cl): RCl:=⟨c.at_,c.base,wdN all ly c.fun_⟩
def rty(all:List Thing)(ly:List Nat)(t:Ty): RTy:=⟨rcl all ly t.c,t.height,t.calls⟩
def rawS(s:St)(oth:List Nat): Raw:=⟨s.words,zB1 s.all s.ly,oth,begL s.all s.ly s.words.toNat,s.stack.map (wdN s.all s.ly),rcl s.all s.ly s.c,s.calls.map (rcl s.all s.ly),s.tries.map (rty s.all s.ly),s.fin,s.num,s.out,s.steps⟩
attribute [local irreducible] zAO Program.underlying Ylds zBE alex zB0 zBk awp zAg zB9 zB8 zAU zBj zA6 zDJ zBl zBn zBC zBq zBz zB7 zDQ zBm zBc zBe
theorem zU1(m:Img)(r:Raw)(a:Int){w:Nat}(h1:1<=r.stk.length)(hw:r.stk[r.stk.length-1-0]?=some w)(hl:r.stk.length<=1048576)(hO:zAU prog 52 [.ptr 0 0,.d (w64 w),.d (i64 1)] (MX m r) (.d (bl false)) (MX m { r with fin:=4 })): zAU prog 47 [.ptr 0 0,.d (i64 a)] (MX m r) .top (MX m { r with fin:=4 }):=by
 have hT0:=zB4 m r (k:=0) (by omega) hw hl
 refine zA7 func47 rfl ntmps47 results47 rfl ?_
 intro wb St0 X fx
 repeat' first|apply en_n|apply zAG|apply zAA|apply zAD|apply w0|(refine zAX [0,1,2,3,4,5,6,7,8] [] rfl rfl zAw (hT0) rfl (SArgs_all rfl) rfl (by decide) rfl rfl rfl rfl)|(refine aVM zCU (hO) (SArgs_all rfl) rfl rfl ?_)|apply ay (hd:=rfl)|exact zBS rfl|exact zAH rfl|refine zAI rfl ?_|apply zAQ|apply en_r
 all_goals exact zDW rfl
theorem zSM(m:Img)(r:Raw)(a:Int){w:Nat}{tag n:Int}(h1:1<=r.stk.length)(hw:r.stk[r.stk.length-1-0]?=some w)(hl:r.stk.length<=1048576)(hB:BlkQ r w 1 tag n true)(hP:zA6 prog 41 [.ptr 0 0,.d (w64 w),.d (i64 a)] (HO r.size r.now r.oth r.beg) (.tup [w64 0,bl false])): zAU prog 47 [.ptr 0 0,.d (i64 a)] (MX m r) .top (MX m { r with fin:=4 }):=by
 have hT0:=zB4 m r (k:=0) (by omega) hw hl
 have hO:=zFU m r hB
 have hS:=zEx m r 4
 refine zA7 func47 rfl ntmps47 results47 rfl ?_
 intro wb St0 X fx
 repeat' first|apply en_n|apply zAG|apply zAA|apply zAD|apply w0|exact zAL rfl|(refine zAX [0,1,2,3,4,5,6,7,8] [] rfl rfl zAw (hT0) rfl (SArgs_all rfl) rfl (by decide) rfl rfl rfl rfl)|(refine zAX [0,1,2,3,4,5,6,7,8] [] rfl rfl zCU (hO) rfl (SArgs_all rfl) rfl (by decide) rfl rfl rfl rfl)|(refine zAX [1,2,3,4] [] rfl rfl zFA (hP) rfl (SArgs_all rfl) rfl (by decide) rfl rfl rfl rfl)|(refine aVM zDL (hS) (SArgs_all rfl) rfl rfl ?_)|apply ay (hd:=rfl)|exact zAF rfl|exact zAB rfl|exact zBS rfl|exact zAk rfl rfl|exact zAH rfl|exact zAC rfl zBb|exact zAE rfl zBw rfl rfl|refine zAI rfl ?_|refine zAJ rfl ?_|apply zAR|apply zAQ|refine zAf (by kernel_rfl) (by kernel_rfl) ?_|apply en_r
 all_goals exact zDW rfl
theorem zU0(m:Img)(r:Raw)(a:Int){w x:Nat}{tag n:Int}(h1:1<=r.stk.length)(hw:r.stk[r.stk.length-1-0]?=some w)(hl:r.stk.length<=1048576)(hB:BlkQ r w 1 tag n true)(hP:zA6 prog 41 [.ptr 0 0,.d (w64 w),.d (i64 a)] (HO r.size r.now r.oth r.beg) (.tup [w64 x,bl true])): zAU prog 47 [.ptr 0 0,.d (i64 a)] (MX m r) .top (MX m { r with stk:=r.stk.take (r.stk.length-1)++[x] }):=by
 have hT0:=zB4 m r (k:=0) (by omega) hw hl
 have hO:=zFU m r hB
 have hS:=zFC m r (n:=1) (w:=x) hl h1
 refine zA7 func47 rfl ntmps47 results47 rfl ?_
 intro wb St0 X fx
 repeat' first|apply en_n|apply zAG|apply zAA|apply zAD|apply w0|exact zAL rfl|(refine zAX [0,1,2,3,4,5,6,7,8] [] rfl rfl zAw (hT0) rfl (SArgs_all rfl) rfl (by decide) rfl rfl rfl rfl)|(refine zAX [0,1,2,3,4,5,6,7,8] [] rfl rfl zCU (hO) rfl (SArgs_all rfl) rfl (by decide) rfl rfl rfl rfl)|(refine zAX [1,2,3,4] [] rfl rfl zFA (hP) rfl (SArgs_all rfl) rfl (by decide) rfl rfl rfl rfl)|(refine aVM zD8 (hS) (SArgs_all rfl) rfl rfl ?_)|apply ay (hd:=rfl)|exact zAF rfl|exact zAB rfl|exact zBS rfl|exact zAk rfl rfl|exact zAH rfl|exact zAC rfl zBb|exact zAE rfl zBw rfl rfl|refine zAJ rfl ?_|apply zAR|refine zAf (by kernel_rfl) (by kernel_rfl) ?_
 all_goals exact zEG rfl
theorem zVY(l:List Nat)(hl:l.length<=1048576): zDJ prog 129 [.buf 0 l.length] [.buf true 58 1 (w64s l)] l.length 58 1 (w64s l):=by
 refine zOw func129 rfl ntmps129 results129 rfl ?_
 intro wb St0
 have e3:w64s l=([]:List D).take 0++((w64s l).drop 0).take l.length:=by
  show _=[]++_
  rw[qBl,List.drop_zero,qAi (qA1 (zAm l))]
 rcases Nat.eq_zero_or_pos l.length with h0|h0
 ·skip
  repeat' first|(refine zNQ ?_)|(apply zNz;(with_reducible exact zCW);(with_reducible exact zBY);(with_reducible exact zGQ);exact rfl;exact rfl;exact rfl;refine zH7 1 rfl ?_)|apply en_n|apply zAG|apply zAA|apply zAD|apply w0|(refine zSv (id:=1) (id2:=0) (mu2:=true) (ys:=w64s l) rfl rfl (qAV _) (fun c=>by cases c) rfl rfl (by rw[zAm,qAU];exact qAN _) (by with_reducible exact zCW) (by with_reducible exact zBY) (by with_reducible exact zFD) (by with_reducible exact zD5) (zHN _) ?_ rfl rfl ?_)|exact zVQ rfl rfl zCq|(refine zKB rfl ?_ ?_)|apply ay (hd:=rfl)|exact zBN rfl|exact zAz rfl|exact zAp rfl|apply zAR
  all_goals first|omega|skip
  ·refine Stop.go ?_
   refine zAQ ?_
   refine en_r ?_
   have e:l=[]:=List.length_eq_zero_iff.1 h0
   subst e
   exact zFy ⟨_,rfl,.inl ⟨rfl,rfl,rfl⟩⟩
  ·refine Stop.go ?_
   refine zAQ ?_
   refine zFy ⟨_,rfl,.inr ⟨1,rfl,?_,?_⟩⟩
   ·show SV.buf 1 (0+l.length)=_;rw[qAU]
   ·exact congrArg (fun x=>some (Ob.buf true 58 1 x)) e3.symm
 ·skip
  repeat' first|(refine zNQ ?_)|(apply zNz;(with_reducible exact zCW);(with_reducible exact zBY);(with_reducible exact zGQ);exact rfl;exact rfl;exact rfl;refine zH7 1 rfl ?_)|apply en_n|apply zAG|apply zAA|apply zAD|apply w0|(refine zSv (id:=1) (id2:=0) (mu2:=true) (ys:=w64s l) rfl rfl (qAV _) (fun c=>by cases c) rfl rfl (by rw[zAm,qAU];exact qAN _) (by with_reducible exact zCW) (by with_reducible exact zBY) (by with_reducible exact zFD) (by with_reducible exact zD5) (zHN _) ?_ rfl rfl ?_)|(apply zS3;exact rfl;exact rfl;(with_reducible exact zCq);exact rfl;(rw[zAm];exact qAN _);exact h0)|apply ay (hd:=rfl)|exact zBN rfl|exact zAz rfl|exact zAp rfl|refine zAJ rfl ?_|apply zAR
  all_goals first|omega|skip
  ·refine Stop.go ?_
   refine zAQ ?_
   refine zFy ⟨_,rfl,.inr ⟨1,rfl,?_,?_⟩⟩
   ·show SV.buf 1 (0+l.length)=_;rw[qAU]
   ·exact congrArg (fun x=>some (Ob.buf true 58 1 x)) e3.symm
end Go.Proofs.YtcagoomibpcdlaaGreatDoor
namespace Go.Proofs.YtcagoomibpcdlaaGreatDoor
open Go.Sx Go.Vm
theorem zUD(s:St)(e:Int)(oth:List Nat): rawS (s.stop e) oth = { rawS s oth with fin:=e }:=rfl
theorem zBR(s:St)(oth:List Nat): (rawS s oth).stk.length=s.stack.length:=qAC _
theorem zHP(s:St)(oth:List Nat): (rawS s oth).cls.length=s.calls.length:=qAC _
theorem zJc(s:St)(oth:List Nat): (rawS s oth).trs.length=s.tries.length:=qAC _
theorem zER(s:St)(n:Nat)(r:Rf)(oth:List Nat): rawS (s.instead n r) oth = { rawS s oth with stk:=(rawS s oth).stk.take ((rawS s oth).stk.length-n)++[wdN s.all s.ly r] }:=by
 simp only[rawS,St.instead,qAl,qBb,qAs,qBk,qAC]
theorem zOW(s:St)(r:Rf)(oth:List Nat): rawS (s.instead 0 r) oth = { rawS s oth with stk:=(rawS s oth).stk++[wdN s.all s.ly r] }:=by
 rw[zER,Nat.sub_zero,qA8]
theorem zIz(s:St)(n:Nat)(x:Int)(oth:List Nat): rawS (s.numI n x) oth = { rawS s oth with stk:=(rawS s oth).stk.take ((rawS s oth).stk.length-n)++[nW x] }:=zER s n (numR x) oth
theorem zOV(s:St)(n:Nat)(oth:List Nat): rawS { s with stack:=s.stack.take (s.stack.length-n) } oth = { rawS s oth with stk:=(rawS s oth).stk.take ((rawS s oth).stk.length-n) }:=by
 simp only[rawS,qBb,qAC]
theorem zFH(s:St)(oth:List Nat){k:Nat}(h:k<s.stack.length): (rawS s oth).stk[(rawS s oth).stk.length-1-k]?=some (wdN s.all s.ly (s.top k)):=by
 rw[zBR]
 show (s.stack.map (wdN s.all s.ly))[s.stack.length-1-k]?=_
 have hl:s.stack.length-1-k<s.stack.length:=by omega
 rw[qAL,St.top,qAE,qAB hl]
 rfl
theorem zMA(s:St)(n:Int)(oth:List Nat)(h:s.tries=[]): rawS (s.raise n) oth = { rawS s oth with num:=n,fin:=2 }:=by
 have h':s.tries.getLast? = none:=by rw[h];rfl
 rw[St.raise,h'];rfl
theorem zRM(s:St)(n:Int)(oth:List Nat){t:Ty}(h:s.tries.getLast? = some t):
  rawS (s.raise n) oth = { rawS s oth with stk:=(rawS s oth).stk.take (rty s.all s.ly t).height.toNat++[nW n],c:=(rty s.all s.ly t).c,cls:=(rawS s oth).cls.take (rty s.all s.ly t).calls.toNat,trs:=(rawS s oth).trs.dropLast }:=by
 rw[St.raise,h]
 simp only[rawS,rty,qAl,qBb,qAs,qBk,List.map_dropLast,zal]
theorem zUE(s:St)(oth:List Nat){t:Ty}(h:s.tries.getLast? = some t): (rawS s oth).trs.getLast? = some (rty s.all s.ly t):=by
 show (s.tries.map (rty s.all s.ly)).getLast? = _
 rw[List.getLast?_map,h];rfl
theorem zUG(s:St)(oth:List Nat){c:Cl}(h:s.calls.getLast? = some c):
  rawS { s with stack:=s.stack.take s.c.base.toNat++[s.top 0],c:=(s.calls.getLast?).getD default,calls:=s.calls.dropLast } oth = { rawS s oth with stk:=(rawS s oth).stk.take (rawS s oth).c.base.toNat++[wdN s.all s.ly (s.top 0)],c:=rcl s.all s.ly c,cls:=(rawS s oth).cls.dropLast }:=by
 rw[h]
 simp only[rawS,rcl,qAl,qBb,qAs,qBk,List.map_dropLast,qBa]
theorem zW5(s:St)(a:Int)(oth:List Nat):
  rawS { s with tries:=s.tries++[⟨{ s.c with at_:=a },s.stack.length,s.calls.length⟩] } oth = { rawS s oth with trs:=(rawS s oth).trs++[⟨{ (rawS s oth).c with at_:=a },((rawS s oth).stk.length:Int),((rawS s oth).cls.length:Int)⟩] }:=by
 simp only[rawS,rty,rcl,qAl,qAs,qBk,qAC]
theorem zW6(s:St)(oth:List Nat): rawS { s with tries:=s.tries.dropLast } oth = { rawS s oth with trs:=(rawS s oth).trs.dropLast }:=by
 simp only[rawS,List.map_dropLast]
theorem zUC(s:St)(oth:List Nat)(tag:Int)(f x:Rf):
  rawS { s with stack:=s.stack.take s.c.base.toNat++[x],c:=⟨tag,s.c.base,f⟩ } oth = { rawS s oth with stk:=(rawS s oth).stk.take (rawS s oth).c.base.toNat++[wdN s.all s.ly x],c:=⟨tag,(rawS s oth).c.base,wdN s.all s.ly f⟩ }:=by
 simp only[rawS,rcl,qAl,qBb,qAs,qBk]
theorem zUF(s:St)(oth:List Nat)(tag:Int)(f x:Rf):
  rawS { s with calls:=s.calls++[s.c],stack:=s.stack.take (s.stack.length-2)++[x],c:=⟨tag,(s.stack.length:Int)-2,f⟩ } oth = { rawS s oth with stk:=(rawS s oth).stk.take ((rawS s oth).stk.length-2)++[wdN s.all s.ly x],cls:=(rawS s oth).cls++[(rawS s oth).c],c:=⟨tag,((rawS s oth).stk.length:Int)-2,wdN s.all s.ly f⟩ }:=by
 simp only[rawS,rcl,qAl,qBb,qAs,qBk,qAC]
open _root_.Go.Proofs.Tryz
def setC(l:List RCl)(w:List Nat): List RCl:=List.zipWith (fun c f=>{ c with fn:=f }) l w
def setT(l:List RTy)(w:List Nat): List RTy:=List.zipWith (fun t f=>{ t with c:={ t.c with fn:=f } }) l w
def mixC(l:List RCl)(w:List Nat)(i:Nat): List RCl:=setC (l.take i) w++l.drop i
def mixT(l:List RTy)(w:List Nat)(i:Nat): List RTy:=setT (l.take i) w++l.drop i
theorem zZZ(l:List RCl)(w:List Nat): mixC l w 0=l:=by simp[mixC,setC]
theorem zZY(l:List RTy)(w:List Nat): mixT l w 0=l:=by simp[mixT,setT]
theorem zUj(l:List RCl)(w:List Nat): mixC l w l.length=setC l w:=by simp[mixC]
theorem zUh(l:List RTy)(w:List Nat): mixT l w l.length=setT l w:=by simp[mixT]
theorem zOj(l:List RCl)(w:List Nat)(i:Nat)(h:l.length<=w.length): (mixC l w i).length=l.length:=by
 simp only[mixC,setC,qAD,qBf,qAK,qAb];omega
theorem zOi(l:List RTy)(w:List Nat)(i:Nat)(h:l.length<=w.length): (mixT l w i).length=l.length:=by
 simp only[mixT,setT,qAD,qBf,qAK,qAb];omega
theorem zXV{l:List RCl}{w:List Nat}{i:Nat}{c:RCl}(h:l[i]?=some c)(hw:l.length<=w.length): (mixC l w i)[i]?=some c:=by
 obtain⟨hl,e⟩:=qAA.1 h
 unfold mixC
 rw[qAG (by simp only[setC,qBf,qAK];omega),show i-(setC (l.take i) w).length=0 by simp only[setC,qBf,qAK];omega,qAh,qA2,h]
theorem zXU{l:List RTy}{w:List Nat}{i:Nat}{c:RTy}(h:l[i]?=some c)(hw:l.length<=w.length): (mixT l w i)[i]?=some c:=by
 obtain⟨hl,e⟩:=qAA.1 h
 unfold mixT
 rw[qAG (by simp only[setT,qBf,qAK];omega),show i-(setT (l.take i) w).length=0 by simp only[setT,qBf,qAK];omega,qAh,qA2,h]
theorem zKz{α β γ:Type}(f:α->β->γ): ∀(l:List α) (w:List β) (i:Nat) (a:α) (b:β),l[i]?=some a->w[i]?=some b->List.zipWith f (l.take (i+1)) w=List.zipWith f (l.take i) w++[f a b]
 |a::l,b::w,0,a',b',h1,h2=>by simp at h1 h2;subst h1;subst h2;simp
 |a::l,b::w,i+1,a',b',h1,h2=>by
  rw[List.take_succ_cons,List.take_succ_cons,List.zipWith_cons_cons,List.zipWith_cons_cons,zKz f l w i a' b' (by simpa using h1) (by simpa using h2)];rfl
 |[],_,_,_,_,h1,_=>by simp at h1
 |_::_,[],_,_,_,_,h2=>by simp at h2
theorem zUi{l:List RCl}{w:List Nat}{i:Nat}{c:RCl}{f:Nat}(h:l[i]?=some c)(hf:w[i]?=some f)(hw:l.length<=w.length): ((mixC l w i).map enCl).set i (.agg [i64 c.at_,i64 c.base,w64 f])=(mixC l w (i+1)).map enCl:=by
 obtain⟨hl,e⟩:=qAA.1 h
 have hd:l.drop i=c::l.drop (i+1):=by rw[qA5 hl,e]
 have hle:((setC (l.take i) w).map enCl).length=i:=by simp only[setC,qAC,qBf,qAK];omega
 unfold mixC
 rw[qAl,hd,qAs,qBP _ _ (by omega),hle,qBF,qBh,qAl]
 show _=(setC (l.take (i+1)) w).map enCl++_
 unfold setC
 rw[zKz _ l w i c f h hf,qAl,qAg]
 rfl
theorem zUg{l:List RTy}{w:List Nat}{i:Nat}{c:RTy}{f:Nat}(h:l[i]?=some c)(hf:w[i]?=some f)(hw:l.length<=w.length): ((mixT l w i).map enTy).set i (.agg [i64 c.c.at_,i64 c.c.base,w64 f,i64 c.height,i64 c.calls])=(mixT l w (i+1)).map enTy:=by
 obtain⟨hl,e⟩:=qAA.1 h
 have hd:l.drop i=c::l.drop (i+1):=by rw[qA5 hl,e]
 have hle:((setT (l.take i) w).map enTy).length=i:=by simp only[setT,qAC,qBf,qAK];omega
 unfold mixT
 rw[qAl,hd,qAs,qBP _ _ (by omega),hle,qBF,qBh,qAl]
 show _=(setT (l.take (i+1)) w).map enTy++_
 unfold setT
 rw[zKz _ l w i c f h hf,qAl,qAg]
 rfl
def rtsR(r:Raw): List Nat:=r.stk++[r.c.fn]++r.cls.map (·.fn)++r.trs.map (·.c.fn)
def gcR(r:Raw)(now oth:List Nat)(beg:List Bool)(w:List Nat): Raw:={ r with now:=now,oth:=oth,beg:=beg,stk:=w.take r.stk.length,c:={ r.c with fn:=w.getD r.stk.length 0 },cls:=setC r.cls (w.drop (r.stk.length+1)),trs:=setT r.trs (w.drop (r.stk.length+1+r.cls.length)) }
theorem zKL{fx:Nat->Option Nat}{m:Img}{r:Raw}{o:Ob}{η:List Ob}{o':Ob}{q:List Ob}(e:η=MA fx m r++o'::q)(w:WOb o o'): Pre (MA fx m r++[o]) η:=by
 subst e
 have:∀l:List Ob,Pre (l++[o]) (l++o'::q):=fun l=>by
  induction l with
  |nil=>exact⟨w,trivial⟩
  |cons a t ih=>exact⟨fun _ _ _ h=>h,ih⟩
 exact this _
attribute [local irreducible] zAO Program.underlying Ylds zBE alex zB0 zBk awp zAg zB9 zB8 zAU zBj zA6 zBl zBn zBC zBq zBz zB7 zBm zBc zBe
theorem zT6(m:Img)(r:Raw)(n:Int)(hs:0<=r.size/\r.size<=1048576)(hn:r.now.length<=1048576)(h:n<=r.size-(r.now.length:Int)): zA6 prog 76 [.ptr 0 0,.d (i64 n)] (MX m r) (bl true):=by
 have hL:=zKN r.size r.now r.oth r.beg ⟨hs.1,hs.2,hn⟩
 refine zCb func76 rfl ntmps76 results76 rfl ?_
 intro wb St0
 repeat' first|apply en_n|apply zAG|apply zAA|apply zAD|apply w0|exact zHL rfl rfl|exact zAL rfl|(refine zAX [1,2,3,4] [] rfl rfl zFB (hL) rfl (SArgs_all rfl) rfl (by decide) rfl rfl rfl rfl)|apply ay (hd:=rfl)|exact zAF rfl|exact zAB rfl|exact zAH rfl|exact zAC rfl zBb|exact zAE rfl zBw rfl rfl|refine zAI rfl ?_|apply zAQ|apply en_r|apply zAT|refine res1 rfl ?_
 all_goals first|omega|rfl
end Go.Proofs.YtcagoomibpcdlaaGreatDoor
