/- Texts of this claim, merged: VmBF, VmBU, VmBG. -/
import Derived.Test.YtcagoomibpcdlaaGreatDoorMAB
import Derived.Test.YtcagoomibpcdlaaGreatDoorMAR
namespace Go.Proofs.YtcagoomibpcdlaaGreatDoor
open Go.Sx Go.Vm
def rcl(all:List Thing)(ly:List Nat)(c:Cl): RCl:=⟨c.at_,c.base,wdN all ly c.fun_⟩
def rty(all:List Thing)(ly:List Nat)(t:Ty): RTy:=⟨rcl all ly t.c,t.height,t.calls⟩
def rawS(s:St)(oth:List Nat): Raw:=⟨s.words,zBj s.all s.ly,oth,begL s.all s.ly s.words.toNat,s.stack.map (wdN s.all s.ly),rcl s.all s.ly s.c,s.calls.map (rcl s.all s.ly),s.tries.map (rty s.all s.ly),s.fin,s.num,s.out,s.steps⟩
attribute [local irreducible] zAQ Program.underlying Ylds zBD alex zCA zBi awp zAp zCI zCH zAW zBw zA5 zD4 zB0 zBp zBF zBv zB9 zCE zES zBn zBm zBs
theorem zTb(m:Img)(r:Raw)(a:Int){w:Nat}(h1:1≤r.stk.length)(hw:r.stk[r.stk.length-1-0]?=some w)(hl:r.stk.length≤1048576)(hO:zAW Tryz.prog 52 [.ptr 0 0,.d (w64 w),.d (i64 1)] (MX m r) (.d (bl false)) (MX m { r with fin:=4 })): zAW Tryz.prog 47 [.ptr 0 0,.d (i64 a)] (MX m r) .top (MX m { r with fin:=4 }):=by
 have hT0:=zBl m r (k:=0) (by omega) hw hl
 refine zAy Tryz.func47 rfl Tryz.ntmps47 Tryz.results47 rfl ?_
 intro wb St0 X fx
 repeat' first|apply en_n|apply zAK|apply zAA|apply zAF|apply w0|(refine zAZ [0,1,2,3,4,5,6,7,8] [] rfl rfl zAv (hT0) rfl ?_ rfl (by decide) rfl rfl rfl rfl;(repeat (refine zAB rfl ?_));exact zAE)|(refine aVM zCQ (hO) ?_ rfl rfl ?_;(repeat (refine zAB rfl ?_));exact zAE)|apply ay (hd:=rfl)|exact zBd rfl|exact zAH rfl|(apply zAL;exact rfl)|apply zAT|apply en_r
 all_goals exact zDJ rfl
theorem zQy(m:Img)(r:Raw)(a:Int){w:Nat}{tag n:Int}(h1:1≤r.stk.length)(hw:r.stk[r.stk.length-1-0]?=some w)(hl:r.stk.length≤1048576)(hB:BlkQ r w 1 tag n true)(hP:zA5 Tryz.prog 41 [.ptr 0 0,.d (w64 w),.d (i64 a)] (HO r.size r.now r.oth r.beg) (.tup [w64 0,bl false])): zAW Tryz.prog 47 [.ptr 0 0,.d (i64 a)] (MX m r) .top (MX m { r with fin:=4 }):=by
 have hT0:=zBl m r (k:=0) (by omega) hw hl
 have hO:=zFA m r hB
 have hS:=zEf m r 4
 refine zAy Tryz.func47 rfl Tryz.ntmps47 Tryz.results47 rfl ?_
 intro wb St0 X fx
 repeat' first|apply en_n|apply zAK|apply zAA|apply zAF|apply w0|exact zAN rfl|(refine zAZ [0,1,2,3,4,5,6,7,8] [] rfl rfl zAv (hT0) rfl ?_ rfl (by decide) rfl rfl rfl rfl;(repeat (refine zAB rfl ?_));exact zAE)|(refine zAZ [0,1,2,3,4,5,6,7,8] [] rfl rfl zCQ (hO) rfl ?_ rfl (by decide) rfl rfl rfl rfl;(repeat (refine zAB rfl ?_));exact zAE)|(refine zAZ [1,2,3,4] [] rfl rfl zEn (hP) rfl ?_ rfl (by decide) rfl rfl rfl rfl;(repeat (refine zAB rfl ?_));exact zAE)|(refine aVM zDB (hS) ?_ rfl rfl ?_;(repeat (refine zAB rfl ?_));exact zAE)|apply ay (hd:=rfl)|exact zAJ rfl|exact zAD rfl|exact zBd rfl|exact zAm rfl rfl|exact zAH rfl|(apply zAC;exact rfl;(with_reducible exact zBV))|(apply zAG;exact rfl;(with_reducible exact zBg);exact rfl;exact rfl)|(apply zAL;exact rfl)|(apply zAM;exact rfl)|apply zAU|apply zAT|refine zAr (by kernel_rfl) (by kernel_rfl) ?_|apply en_r
 all_goals exact zDJ rfl
theorem zTa(m:Img)(r:Raw)(a:Int){w x:Nat}{tag n:Int}(h1:1≤r.stk.length)(hw:r.stk[r.stk.length-1-0]?=some w)(hl:r.stk.length≤1048576)(hB:BlkQ r w 1 tag n true)(hP:zA5 Tryz.prog 41 [.ptr 0 0,.d (w64 w),.d (i64 a)] (HO r.size r.now r.oth r.beg) (.tup [w64 x,bl true])): zAW Tryz.prog 47 [.ptr 0 0,.d (i64 a)] (MX m r) .top (MX m { r with stk:=r.stk.take (r.stk.length-1)++[x] }):=by
 have hT0:=zBl m r (k:=0) (by omega) hw hl
 have hO:=zFA m r hB
 have hS:=zEp m r (n:=1) (w:=x) hl h1
 refine zAy Tryz.func47 rfl Tryz.ntmps47 Tryz.results47 rfl ?_
 intro wb St0 X fx
 repeat' first|apply en_n|apply zAK|apply zAA|apply zAF|apply w0|exact zAN rfl|(refine zAZ [0,1,2,3,4,5,6,7,8] [] rfl rfl zAv (hT0) rfl ?_ rfl (by decide) rfl rfl rfl rfl;(repeat (refine zAB rfl ?_));exact zAE)|(refine zAZ [0,1,2,3,4,5,6,7,8] [] rfl rfl zCQ (hO) rfl ?_ rfl (by decide) rfl rfl rfl rfl;(repeat (refine zAB rfl ?_));exact zAE)|(refine zAZ [1,2,3,4] [] rfl rfl zEn (hP) rfl ?_ rfl (by decide) rfl rfl rfl rfl;(repeat (refine zAB rfl ?_));exact zAE)|(refine aVM zDq (hS) ?_ rfl rfl ?_;(repeat (refine zAB rfl ?_));exact zAE)|apply ay (hd:=rfl)|exact zAJ rfl|exact zAD rfl|exact zBd rfl|exact zAm rfl rfl|exact zAH rfl|(apply zAC;exact rfl;(with_reducible exact zBV))|(apply zAG;exact rfl;(with_reducible exact zBg);exact rfl;exact rfl)|(apply zAM;exact rfl)|apply zAU|refine zAr (by kernel_rfl) (by kernel_rfl) ?_
 all_goals exact zDz rfl
theorem zUA(l:List Nat)(hl:l.length≤1048576): zD4 Tryz.prog 129 [.buf 0 l.length] [.buf true 58 1 (w64s l)] l.length 58 1 (w64s l):=by
 refine zNm Tryz.func129 rfl Tryz.ntmps129 Tryz.results129 rfl ?_
 intro wb St0
 have e3:w64s l=([]:List D).take 0++((w64s l).drop 0).take l.length:=by
  show _=[]++_
  rw[List.nil_append,List.drop_zero,List.take_of_length_le (Nat.le_of_eq (zAk l))]
 rcases Nat.eq_zero_or_pos l.length with h0|h0
 ·skip
  repeat' first|(refine zMP ?_)|(apply zPF;(with_reducible exact zCT);(with_reducible exact zBS);(with_reducible exact zF0);exact rfl;exact rfl;exact rfl;refine zHe 1 rfl ?_)|apply en_n|apply zAK|apply zAA|apply zAF|apply w0|(refine zRT (id:=1) (id2:=0) (mu2:=true) (ys:=w64s l) rfl rfl (Nat.zero_le _) (fun c=>by cases c) rfl rfl (by rw[zAk,Nat.zero_add];exact Nat.le_refl _) (by with_reducible exact zCT) (by with_reducible exact zBS) (by with_reducible exact zEr) (by with_reducible exact zDm) (zGv _) ?_ rfl rfl ?_)|(apply zT2;exact rfl;exact rfl;(with_reducible exact zCj))|(refine zJR rfl ?_ ?_)|apply ay (hd:=rfl)|exact zCB rfl|exact zBR rfl|exact zAz rfl|apply zAU
  all_goals first|omega|skip
  ·refine Stop.go ?_
   refine zAT ?_
   refine en_r ?_
   have e:l=[]:=List.length_eq_zero_iff.1 h0
   subst e
   exact zFZ ⟨_,rfl,.inl ⟨rfl,rfl,rfl⟩⟩
  ·refine Stop.go ?_
   refine zAT ?_
   refine zFZ ⟨_,rfl,.inr ⟨1,rfl,?_,?_⟩⟩
   ·show SV.buf 1 (0+l.length)=_;rw[Nat.zero_add]
   ·exact congrArg (fun x=>some (Ob.buf true 58 1 x)) e3.symm
 ·skip
  repeat' first|(refine zMP ?_)|(apply zPF;(with_reducible exact zCT);(with_reducible exact zBS);(with_reducible exact zF0);exact rfl;exact rfl;exact rfl;refine zHe 1 rfl ?_)|apply en_n|apply zAK|apply zAA|apply zAF|apply w0|(refine zRT (id:=1) (id2:=0) (mu2:=true) (ys:=w64s l) rfl rfl (Nat.zero_le _) (fun c=>by cases c) rfl rfl (by rw[zAk,Nat.zero_add];exact Nat.le_refl _) (by with_reducible exact zCT) (by with_reducible exact zBS) (by with_reducible exact zEr) (by with_reducible exact zDm) (zGv _) ?_ rfl rfl ?_)|(apply zRb;exact rfl;exact rfl;(with_reducible exact zCj);exact rfl;(rw[zAk];exact Nat.le_refl _);exact h0)|apply ay (hd:=rfl)|exact zCB rfl|exact zBR rfl|exact zAz rfl|(apply zAM;exact rfl)|apply zAU
  all_goals first|omega|skip
  ·refine Stop.go ?_
   refine zAT ?_
   refine zFZ ⟨_,rfl,.inr ⟨1,rfl,?_,?_⟩⟩
   ·show SV.buf 1 (0+l.length)=_;rw[Nat.zero_add]
   ·exact congrArg (fun x=>some (Ob.buf true 58 1 x)) e3.symm
end Go.Proofs.YtcagoomibpcdlaaGreatDoor
namespace Go.Proofs.YtcagoomibpcdlaaGreatDoor
open Go.Sx Go.Vm
theorem zSo(s:St)(e:Int)(oth:List Nat): rawS (s.stop e) oth = { rawS s oth with fin:=e }:=rfl
theorem zBO(s:St)(oth:List Nat): (rawS s oth).stk.length=s.stack.length:=List.length_map _
theorem zGx(s:St)(oth:List Nat): (rawS s oth).cls.length=s.calls.length:=List.length_map _
theorem zIu(s:St)(oth:List Nat): (rawS s oth).trs.length=s.tries.length:=List.length_map _
theorem zD9(s:St)(n:Nat)(r:Rf)(oth:List Nat): rawS (s.instead n r) oth = { rawS s oth with stk:=(rawS s oth).stk.take ((rawS s oth).stk.length-n)++[wdN s.all s.ly r] }:=by
 simp only[rawS,St.instead,List.map_append,List.map_take,List.map_cons,List.map_nil,List.length_map]
theorem zNP(s:St)(r:Rf)(oth:List Nat): rawS (s.instead 0 r) oth = { rawS s oth with stk:=(rawS s oth).stk++[wdN s.all s.ly r] }:=by
 rw[zD9,Nat.sub_zero,List.take_length]
theorem zIQ(s:St)(n:Nat)(x:Int)(oth:List Nat): rawS (s.numI n x) oth = { rawS s oth with stk:=(rawS s oth).stk.take ((rawS s oth).stk.length-n)++[nW x] }:=zD9 s n (numR x) oth
theorem zNO(s:St)(n:Nat)(oth:List Nat): rawS { s with stack:=s.stack.take (s.stack.length-n) } oth = { rawS s oth with stk:=(rawS s oth).stk.take ((rawS s oth).stk.length-n) }:=by
 simp only[rawS,List.map_take,List.length_map]
theorem zEt(s:St)(oth:List Nat){k:Nat}(h:k<s.stack.length): (rawS s oth).stk[(rawS s oth).stk.length-1-k]?=some (wdN s.all s.ly (s.top k)):=by
 rw[zBO]
 show (s.stack.map (wdN s.all s.ly))[s.stack.length-1-k]?=_
 have hl:s.stack.length-1-k<s.stack.length:=by omega
 rw[List.getElem?_map,St.top,List.getD_eq_getElem?_getD,List.getElem?_eq_getElem hl]
 rfl
theorem zLD(s:St)(n:Int)(oth:List Nat)(h:s.tries=[]): rawS (s.raise n) oth = { rawS s oth with num:=n,fin:=2 }:=by
 have h':s.tries.getLast? = none:=by rw[h];rfl
 rw[St.raise,h'];rfl
theorem zP4(s:St)(n:Int)(oth:List Nat){t:Ty}(h:s.tries.getLast? = some t):
  rawS (s.raise n) oth = { rawS s oth with stk:=(rawS s oth).stk.take (rty s.all s.ly t).height.toNat++[nW n],c:=(rty s.all s.ly t).c,cls:=(rawS s oth).cls.take (rty s.all s.ly t).calls.toNat,trs:=(rawS s oth).trs.dropLast }:=by
 rw[St.raise,h]
 simp only[rawS,rty,List.map_append,List.map_take,List.map_cons,List.map_nil,List.map_dropLast,zY7]
theorem zSp(s:St)(oth:List Nat){t:Ty}(h:s.tries.getLast? = some t): (rawS s oth).trs.getLast? = some (rty s.all s.ly t):=by
 show (s.tries.map (rty s.all s.ly)).getLast? = _
 rw[List.getLast?_map,h];rfl
theorem zSr(s:St)(oth:List Nat){c:Cl}(h:s.calls.getLast? = some c):
  rawS { s with stack:=s.stack.take s.c.base.toNat++[s.top 0],c:=(s.calls.getLast?).getD default,calls:=s.calls.dropLast } oth = { rawS s oth with stk:=(rawS s oth).stk.take (rawS s oth).c.base.toNat++[wdN s.all s.ly (s.top 0)],c:=rcl s.all s.ly c,cls:=(rawS s oth).cls.dropLast }:=by
 rw[h]
 simp only[rawS,rcl,List.map_append,List.map_take,List.map_cons,List.map_nil,List.map_dropLast,Option.getD_some]
theorem zVZ(s:St)(a:Int)(oth:List Nat):
  rawS { s with tries:=s.tries++[⟨{ s.c with at_:=a },s.stack.length,s.calls.length⟩] } oth = { rawS s oth with trs:=(rawS s oth).trs++[⟨{ (rawS s oth).c with at_:=a },((rawS s oth).stk.length:Int),((rawS s oth).cls.length:Int)⟩] }:=by
 simp only[rawS,rty,rcl,List.map_append,List.map_cons,List.map_nil,List.length_map]
theorem zVa(s:St)(oth:List Nat): rawS { s with tries:=s.tries.dropLast } oth = { rawS s oth with trs:=(rawS s oth).trs.dropLast }:=by
 simp only[rawS,List.map_dropLast]
theorem zSn(s:St)(oth:List Nat)(tag:Int)(f x:Rf):
  rawS { s with stack:=s.stack.take s.c.base.toNat++[x],c:=⟨tag,s.c.base,f⟩ } oth = { rawS s oth with stk:=(rawS s oth).stk.take (rawS s oth).c.base.toNat++[wdN s.all s.ly x],c:=⟨tag,(rawS s oth).c.base,wdN s.all s.ly f⟩ }:=by
 simp only[rawS,rcl,List.map_append,List.map_take,List.map_cons,List.map_nil]
theorem zSq(s:St)(oth:List Nat)(tag:Int)(f x:Rf):
  rawS { s with calls:=s.calls++[s.c],stack:=s.stack.take (s.stack.length-2)++[x],c:=⟨tag,(s.stack.length:Int)-2,f⟩ } oth = { rawS s oth with stk:=(rawS s oth).stk.take ((rawS s oth).stk.length-2)++[wdN s.all s.ly x],cls:=(rawS s oth).cls++[(rawS s oth).c],c:=⟨tag,((rawS s oth).stk.length:Int)-2,wdN s.all s.ly f⟩ }:=by
 simp only[rawS,rcl,List.map_append,List.map_take,List.map_cons,List.map_nil,List.length_map]
end Go.Proofs.YtcagoomibpcdlaaGreatDoor
namespace Go.Proofs.YtcagoomibpcdlaaGreatDoor
open Go.Sx Go.Vm
def setC(l:List RCl)(w:List Nat): List RCl:=List.zipWith (fun c f=>{ c with fn:=f }) l w
def setT(l:List RTy)(w:List Nat): List RTy:=List.zipWith (fun t f=>{ t with c:={ t.c with fn:=f } }) l w
def mixC(l:List RCl)(w:List Nat)(i:Nat): List RCl:=setC (l.take i) w++l.drop i
def mixT(l:List RTy)(w:List Nat)(i:Nat): List RTy:=setT (l.take i) w++l.drop i
theorem zXy(l:List RCl)(w:List Nat): mixC l w 0=l:=by simp[mixC,setC]
theorem zXx(l:List RTy)(w:List Nat): mixT l w 0=l:=by simp[mixT,setT]
theorem zTH(l:List RCl)(w:List Nat): mixC l w l.length=setC l w:=by simp[mixC]
theorem zTF(l:List RTy)(w:List Nat): mixT l w l.length=setT l w:=by simp[mixT]
theorem zNb(l:List RCl)(w:List Nat)(i:Nat)(h:l.length≤w.length): (mixC l w i).length=l.length:=by
 simp only[mixC,setC,List.length_append,List.length_zipWith,List.length_take,List.length_drop];omega
theorem zNa(l:List RTy)(w:List Nat)(i:Nat)(h:l.length≤w.length): (mixT l w i).length=l.length:=by
 simp only[mixT,setT,List.length_append,List.length_zipWith,List.length_take,List.length_drop];omega
theorem zVu{l:List RCl}{w:List Nat}{i:Nat}{c:RCl}(h:l[i]?=some c)(hw:l.length≤w.length): (mixC l w i)[i]?=some c:=by
 obtain⟨hl,e⟩:=List.getElem?_eq_some_iff.1 h
 unfold mixC
 rw[List.getElem?_append_right (by simp only[setC,List.length_zipWith,List.length_take];omega),show i-(setC (l.take i) w).length=0 by simp only[setC,List.length_zipWith,List.length_take];omega,List.getElem?_drop,Nat.add_zero,h]
theorem zVt{l:List RTy}{w:List Nat}{i:Nat}{c:RTy}(h:l[i]?=some c)(hw:l.length≤w.length): (mixT l w i)[i]?=some c:=by
 obtain⟨hl,e⟩:=List.getElem?_eq_some_iff.1 h
 unfold mixT
 rw[List.getElem?_append_right (by simp only[setT,List.length_zipWith,List.length_take];omega),show i-(setT (l.take i) w).length=0 by simp only[setT,List.length_zipWith,List.length_take];omega,List.getElem?_drop,Nat.add_zero,h]
theorem zKB{α β γ:Type}(f:α→β→γ): ∀(l:List α) (w:List β) (i:Nat) (a:α) (b:β),l[i]?=some a→w[i]?=some b→List.zipWith f (l.take (i+1)) w=List.zipWith f (l.take i) w++[f a b]
 |a::l,b::w,0,a',b',h1,h2=>by simp at h1 h2;subst h1;subst h2;simp
 |a::l,b::w,i+1,a',b',h1,h2=>by
  rw[List.take_succ_cons,List.take_succ_cons,List.zipWith_cons_cons,List.zipWith_cons_cons,zKB f l w i a' b' (by simpa using h1) (by simpa using h2)];rfl
 |[],_,_,_,_,h1,_=>by simp at h1
 |_::_,[],_,_,_,_,h2=>by simp at h2
theorem zTG{l:List RCl}{w:List Nat}{i:Nat}{c:RCl}{f:Nat}(h:l[i]?=some c)(hf:w[i]?=some f)(hw:l.length≤w.length): ((mixC l w i).map enCl).set i (.agg [i64 c.at_,i64 c.base,w64 f])=(mixC l w (i+1)).map enCl:=by
 obtain⟨hl,e⟩:=List.getElem?_eq_some_iff.1 h
 have hd:l.drop i=c::l.drop (i+1):=by rw[List.drop_eq_getElem_cons hl,e]
 have hle:((setC (l.take i) w).map enCl).length=i:=by simp only[setC,List.length_map,List.length_zipWith,List.length_take];omega
 unfold mixC
 rw[List.map_append,hd,List.map_cons,List.set_append_right _ _ (by omega),hle,Nat.sub_self,List.set_cons_zero,List.map_append]
 show _=(setC (l.take (i+1)) w).map enCl++_
 unfold setC
 rw[zKB _ l w i c f h hf,List.map_append,List.append_assoc]
 rfl
theorem zTE{l:List RTy}{w:List Nat}{i:Nat}{c:RTy}{f:Nat}(h:l[i]?=some c)(hf:w[i]?=some f)(hw:l.length≤w.length): ((mixT l w i).map enTy).set i (.agg [i64 c.c.at_,i64 c.c.base,w64 f,i64 c.height,i64 c.calls])=(mixT l w (i+1)).map enTy:=by
 obtain⟨hl,e⟩:=List.getElem?_eq_some_iff.1 h
 have hd:l.drop i=c::l.drop (i+1):=by rw[List.drop_eq_getElem_cons hl,e]
 have hle:((setT (l.take i) w).map enTy).length=i:=by simp only[setT,List.length_map,List.length_zipWith,List.length_take];omega
 unfold mixT
 rw[List.map_append,hd,List.map_cons,List.set_append_right _ _ (by omega),hle,Nat.sub_self,List.set_cons_zero,List.map_append]
 show _=(setT (l.take (i+1)) w).map enTy++_
 unfold setT
 rw[zKB _ l w i c f h hf,List.map_append,List.append_assoc]
 rfl
def rtsR(r:Raw): List Nat:=r.stk++[r.c.fn]++r.cls.map (·.fn)++r.trs.map (·.c.fn)
def gcR(r:Raw)(now oth:List Nat)(beg:List Bool)(w:List Nat): Raw:={ r with now:=now,oth:=oth,beg:=beg,stk:=w.take r.stk.length,c:={ r.c with fn:=w.getD r.stk.length 0 },cls:=setC r.cls (w.drop (r.stk.length+1)),trs:=setT r.trs (w.drop (r.stk.length+1+r.cls.length)) }
theorem zJa{fx:Nat→Option Nat}{m:Img}{r:Raw}{o:Ob}{η:List Ob}{o':Ob}{q:List Ob}(e:η=MA fx m r++o'::q)(w:WOb o o'): Pre (MA fx m r++[o]) η:=by
 subst e
 have:∀l:List Ob,Pre (l++[o]) (l++o'::q):=fun l=>by
  induction l with
  |nil=>exact⟨w,trivial⟩
  |cons a t ih=>exact⟨fun _ _ _ h=>h,ih⟩
 exact this _
attribute [local irreducible] zAQ Program.underlying Ylds zBD alex zCA zBi awp zAp zCI zCH zAW zBw zA5 zB0 zBp zBF zBv zB9 zCE zBn zBm zBs
theorem zSh(m:Img)(r:Raw)(n:Int)(hs:0≤r.size∧r.size≤1048576)(hn:r.now.length≤1048576)(h:n≤r.size-(r.now.length:Int)): zA5 Tryz.prog 76 [.ptr 0 0,.d (i64 n)] (MX m r) (bl true):=by
 have hL:=zJc r.size r.now r.oth r.beg ⟨hs.1,hs.2,hn⟩
 refine zCW Tryz.func76 rfl Tryz.ntmps76 Tryz.results76 rfl ?_
 intro wb St0
 repeat' first|apply en_n|apply zAK|apply zAA|apply zAF|apply w0|(apply zJW;exact rfl;exact rfl;first|assumption|omega)|exact zAN rfl|(refine zAZ [1,2,3,4] [] rfl rfl zEo (hL) rfl ?_ rfl (by decide) rfl rfl rfl rfl;(repeat (refine zAB rfl ?_));exact zAE)|apply ay (hd:=rfl)|exact zAJ rfl|exact zAD rfl|exact zAH rfl|(apply zAC;exact rfl;(with_reducible exact zBV))|(apply zAG;exact rfl;(with_reducible exact zBg);exact rfl;exact rfl)|(apply zAL;exact rfl)|apply zAT|apply en_r|apply zAY|(apply res1;exact rfl)
 all_goals first|omega|rfl
end Go.Proofs.YtcagoomibpcdlaaGreatDoor
