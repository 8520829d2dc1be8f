/- Texts of this claim, merged: VmBS, VmBT, VmBV, VmBW, VmBX, VmBY, VmBZ, VmCA, VmCB, VmCC, VmCD, VmCE, VmCF, VmCG, VmCH, VmCI, VmCJ, VmCK, VmCL. -/
import Derived.Test.YtcagoomibpcdlaaGreatDoorMAG
import Derived.Test.YtcagoomibpcdlaaGreatDoorMAS
import Derived.Test.YtcagoomibpcdlaaGreatDoorMAV
import Derived.Test.YtcagoomibpcdlaaGreatDoorMBA
import Derived.Test.YtcagoomibpcdlaaGreatDoorMBB
import Derived.Test.YtcagoomibpcdlaaGreatDoorMBC
import Derived.Test.YtcagoomibpcdlaaGreatDoorMBD
namespace Go.Proofs.YtcagoomibpcdlaaGreatDoor
open Go.Sx Go.Vm
attribute [local irreducible] zAQ Program.underlying Ylds zBD alex zCA zBi awp zAp zCI zCH zAW zBw zA5 zB0 zBp zBF zBv zB9 zCE zBn zBm zBs
set_option maxHeartbeats 4000000 in
theorem zVL(m:Img)(r:Raw){a b:Int}(hc:InsAt m r ⟨14,a,b⟩)(h1:1≤r.trs.length)(hl:r.trs.length≤1048576): zAW Tryz.prog 22 [.ptr 0 0] (MX m r) .top (MX m { nxt r with trs:=r.trs.dropLast }):=by
 obtain⟨hpos,hat0,hbig⟩:=hc
 have hbd:=(List.getElem?_eq_some_iff.1 hat0).1
 have hat:=zBx (f:=enIn) hat0
 have h1':1≤(nxt r).trs.length:=h1
 have hl':(nxt r).trs.length≤1048576:=hl
 have l7:(nxt r).trs.dropLast.length=(((nxt r).trs.length:Int)-1).toNat:=by rw[List.length_dropLast];omega
 refine zAy Tryz.func22 rfl Tryz.ntmps22 Tryz.results22 rfl ?_
 intro wb St0 X fx
 repeat' first|(refine zBT (id:=0) [.y (.ptr 0 0),.y (.ptr 0 0),.y (.ptr 0 (0+0)),.y (.ptr 0 (0+0+1)),.y (.d (.slice (m.code.map enIn))),.y (.ptr 0 0),.y (.ptr 0 0),.y (.ptr 0 (0+4)),.y (.ptr 0 (0+4+0)),.y (.d (i64 r.c.at_)),.y (.rptr [i64 14,i64 a,i64 b]),.y (.d (.agg (List.take 3 [i64 14,i64 a,i64 b]))),.mk ⟨2,_,46,_⟩ none] (by kernel_rfl) (by kernel_rfl) (.inr (by kernel_rfl)) ⟨⟨rfl,zAH rfl⟩,rfl,⟨rfl,zAN rfl⟩,rfl,⟨rfl,zAC rfl zBB⟩,rfl,⟨rfl,zAC rfl zBE⟩,rfl,⟨rfl,zAG rfl zBk rfl rfl⟩,rfl,⟨rfl,zAH rfl⟩,rfl,⟨rfl,zAN rfl⟩,rfl,⟨rfl,zAC rfl zAb⟩,rfl,⟨rfl,zAC rfl zAe⟩,rfl,⟨rfl,zAG rfl zAS rfl rfl⟩,rfl,⟨rfl,zCU rfl rfl zB6 hpos hat rfl (by decide)⟩,rfl,⟨rfl,zBU rfl zA6 rfl⟩,rfl,⟨rfl,rfl,rfl,zCK,by kernel_rfl,rfl⟩,rfl,trivial⟩ ?_)|(refine zBP (id:=2) (s:=[(0,.ptr 0 0),(2,.ptr 9 0)]) (h:=MA fx m (nxt r)++[inB 14 a b]) (zAV (zAI rfl (zAI rfl zAd)) (zCV rfl rfl rfl) rfl rfl) ?_)|apply en_n|apply zAK|apply zAA|apply zAF|apply w0|(refine zBr (by kernel_rfl) ?_;apply zAl;exact rfl;exact rfl;exact rfl;(with_reducible exact zA6);exact rfl;exact rfl;exact rfl;exact rfl)|(apply zAn;exact rfl;exact rfl;first|assumption|omega)|(apply zAs;exact rfl;exact rfl;first|assumption|omega)|exact zAN rfl|(refine zBr (by kernel_rfl) ?_;apply zAl;exact rfl;exact rfl;exact rfl;(first|with_reducible exact zBC|with_reducible exact zCP|with_reducible exact zB5|with_reducible exact zB1|with_reducible exact zCS|with_reducible exact zBQ|with_reducible exact zAS);exact rfl;exact rfl;exact rfl;exact rfl)|(apply zFb;exact rfl;(first|with_reducible exact zDk|with_reducible exact zDf|with_reducible exact zDe);exact rfl;omega;exact⟨_,_,_,_,rfl,(by first|exact Nat.le_of_eq (zAk _).symm|exact Nat.le_of_eq (List.length_map _).symm)⟩)|(apply zAG;exact rfl;(first|with_reducible exact zAf|with_reducible exact vq_tc_23);exact rfl;exact rfl)|apply ay (hd:=rfl)|exact zAD rfl|(apply zBL;exact rfl;exact rfl)|(apply zDX;exact rfl;exact rfl)|(apply zA4;exact rfl;(with_reducible exact zGT))|exact zAH rfl|(apply zAC;exact rfl;(with_reducible first|exact zBJ|exact zAe|exact zAb|exact zC0))|(apply zAG;exact rfl;(with_reducible first|exact zB1|exact zAS);exact rfl;exact rfl)|(refine w0' ?_)|(apply zAl;exact rfl;exact rfl;exact rfl;(with_reducible exact zAS);exact rfl;exact rfl;exact rfl;exact rfl)|(apply zAL;exact rfl)|(apply zAM;exact rfl)|apply zAO|refine zAr (by kernel_rfl) (by kernel_rfl) ?_|apply eb_n
 all_goals first|omega|skip
 all_goals exact zCe ⟨rfl,zAV zAd (zEb rfl rfl rfl rfl l7 rfl rfl rfl rfl rfl rfl rfl (zBW rfl) (zBW rfl) (zM4 _) rfl) rfl rfl⟩
end Go.Proofs.YtcagoomibpcdlaaGreatDoor
namespace Go.Proofs.YtcagoomibpcdlaaGreatDoor
open Go.Sx Go.Vm
attribute [local irreducible] zAQ Program.underlying Ylds zBD alex zCA zBi awp zAp zCI zCH zAW zBw zA5 zB0 zBp zBF zBv zB9 zCE zBn zBm zBs
theorem zXE(l:List RTy)(t:RTy): l.map enTy++[enTy t]=(l++[t]).map enTy:=by rw[List.map_append];rfl
set_option maxHeartbeats 4000000 in
theorem zVI(m:Img)(r:Raw){a b:Int}(hc:InsAt m r ⟨17,a,b⟩)(hl:r.trs.length≤1048576): zAW Tryz.prog 22 [.ptr 0 0] (MX m r) .top (MX m { nxt r with trs:=r.trs++[⟨{ (nxt r).c with at_:=a },(r.stk.length:Int),(r.cls.length:Int)⟩] }):=by
 obtain⟨hpos,hat0,hbig⟩:=hc
 have hbd:=(List.getElem?_eq_some_iff.1 hat0).1
 have hat:=zBx (f:=enIn) hat0
 have hl':(nxt r).trs.length≤1048576:=hl
 refine zAy Tryz.func22 rfl Tryz.ntmps22 Tryz.results22 rfl ?_
 intro wb St0 X fx
 repeat' first|(refine zBT (id:=39) [.y (.ptr 0 0),.y (.ptr 0 0),.y (.ptr 0 (0+4)),.y (.d (.agg [i64 (nxt r).c.at_,i64 (nxt r).c.base,w64 (nxt r).c.fn])),.y (.ptr 0 0),.y (.ptr 0 0),.y (.ptr 0 (0+3)),.y (.buf 5 (nxt r).stk.length),.y (.d (i64 ((nxt r).stk.length:Int))),.y (.ptr 0 0),.y (.ptr 0 0),.y (.ptr 0 (0+7)),.y (.buf 6 (nxt r).cls.length),.y (.d (i64 ((nxt r).cls.length:Int))),.y (.d (.agg [i64 (nxt r).c.at_,i64 (nxt r).c.base,w64 (nxt r).c.fn,i64 ((nxt r).stk.length:Int),i64 ((nxt r).cls.length:Int)])),.mk ⟨7,_,114,_⟩ none] (by kernel_rfl) (by kernel_rfl) (.inr (by kernel_rfl)) ⟨⟨rfl,zAH rfl⟩,rfl,⟨rfl,zAN rfl⟩,rfl,⟨rfl,zAC rfl zAb⟩,rfl,⟨rfl,zBG rfl zCP rfl rfl rfl⟩,rfl,⟨rfl,zAH rfl⟩,rfl,⟨rfl,zAN rfl⟩,rfl,⟨rfl,zAC rfl zCh⟩,rfl,⟨rfl,zAG rfl zBC rfl rfl⟩,rfl,⟨rfl,zA4 rfl zCj⟩,rfl,⟨rfl,zAH rfl⟩,rfl,⟨rfl,zAN rfl⟩,rfl,⟨rfl,zAC rfl zDT⟩,rfl,⟨rfl,zAG rfl zB5 rfl rfl⟩,rfl,⟨rfl,zA4 rfl zGU⟩,rfl,⟨rfl,zCX zR8 zIH (PD_d rfl rfl (PD_d rfl rfl (PD_d rfl rfl zDR))) rfl⟩,rfl,⟨rfl,rfl,rfl,zIH,by kernel_rfl,rfl⟩,rfl,trivial⟩ ?_)|(refine zJQ (rid:=41) [.ptr 0 0,.ptr 0 0,.ptr 0 0,.ptr 0 (0+8),.buf 7 (nxt r).trs.length,.d (.agg [i64 a,i64 (nxt r).c.base,w64 (nxt r).c.fn,i64 ((nxt r).stk.length:Int),i64 ((nxt r).cls.length:Int)]),.d (.slice [.agg [i64 a,i64 (nxt r).c.base,w64 (nxt r).c.fn,i64 ((nxt r).stk.length:Int),i64 ((nxt r).cls.length:Int)]]),.top] 7 7 (by kernel_rfl) (by kernel_rfl) rfl rfl rfl (.inr (by kernel_rfl)) ⟨.inr ⟨⟨rfl,zAH rfl⟩,rfl,rfl,.inr ⟨rfl,rfl,zAH rfl⟩⟩,⟨.inr ⟨⟨rfl,zAH rfl⟩,rfl,rfl,.inl (by kernel_rfl)⟩,⟨.inr ⟨⟨rfl,zAN rfl⟩,rfl,rfl,.inl (by kernel_rfl)⟩,⟨.inr ⟨⟨rfl,zAC rfl zC0⟩,rfl,rfl,.inl (by kernel_rfl)⟩,⟨.inr ⟨⟨rfl,zAG rfl zB1 rfl rfl⟩,rfl,rfl,.inl (by kernel_rfl)⟩,⟨.inr ⟨⟨rfl,zBG rfl zCS rfl rfl rfl⟩,rfl,rfl,.inl (by kernel_rfl)⟩,⟨.inr ⟨⟨rfl,zCG zKz zDu zRz rfl rfl (zAa rfl zAR) rfl⟩,rfl,rfl,.inl (by kernel_rfl)⟩,⟨.inl rfl,trivial⟩⟩⟩⟩⟩⟩⟩⟩ rfl rfl rfl (List.length_map _).symm rfl zKz zDu zR5 zSC rfl rfl (zDv rfl) (by simp only[List.length_cons,List.length_nil];omega) ?_)|(refine zBT (id:=0) [.y (.ptr 0 0),.y (.ptr 0 0),.y (.ptr 0 (0+0)),.y (.ptr 0 (0+0+1)),.y (.d (.slice (m.code.map enIn))),.y (.ptr 0 0),.y (.ptr 0 0),.y (.ptr 0 (0+4)),.y (.ptr 0 (0+4+0)),.y (.d (i64 r.c.at_)),.y (.rptr [i64 17,i64 a,i64 b]),.y (.d (.agg (List.take 3 [i64 17,i64 a,i64 b]))),.mk ⟨2,_,46,_⟩ none] (by kernel_rfl) (by kernel_rfl) (.inr (by kernel_rfl)) ⟨⟨rfl,zAH rfl⟩,rfl,⟨rfl,zAN rfl⟩,rfl,⟨rfl,zAC rfl zBB⟩,rfl,⟨rfl,zAC rfl zBE⟩,rfl,⟨rfl,zAG rfl zBk rfl rfl⟩,rfl,⟨rfl,zAH rfl⟩,rfl,⟨rfl,zAN rfl⟩,rfl,⟨rfl,zAC rfl zAb⟩,rfl,⟨rfl,zAC rfl zAe⟩,rfl,⟨rfl,zAG rfl zAS rfl rfl⟩,rfl,⟨rfl,zCU rfl rfl zB6 hpos hat rfl (by decide)⟩,rfl,⟨rfl,zBU rfl zA6 rfl⟩,rfl,⟨rfl,rfl,rfl,zCK,by kernel_rfl,rfl⟩,rfl,trivial⟩ ?_)|(refine zBP (id:=2) (s:=[(0,.ptr 0 0),(2,.ptr 9 0)]) (h:=MA fx m (nxt r)++[inB 17 a b]) (zAV (zAI rfl (zAI rfl zAd)) (zCV rfl rfl rfl) rfl rfl) ?_)|apply en_n|apply zAK|apply zAA|apply zAF|apply w0|(refine zBr (by kernel_rfl) ?_;apply zAl;exact rfl;exact rfl;exact rfl;(with_reducible exact zA6);exact rfl;exact rfl;exact rfl;exact rfl)|(apply zAn;exact rfl;exact rfl;first|assumption|omega)|(apply zAs;exact rfl;exact rfl;first|assumption|omega)|exact zAN rfl|(refine zBr (by kernel_rfl) ?_;apply zAl;exact rfl;exact rfl;exact rfl;(first|with_reducible exact zBC|with_reducible exact zCP|with_reducible exact zB5|with_reducible exact zB1|with_reducible exact zCS|with_reducible exact zBQ|with_reducible exact zAS);exact rfl;exact rfl;exact rfl;exact rfl)|(apply zAG;exact rfl;(first|with_reducible exact zAf|with_reducible exact vq_tc_23);exact rfl;exact rfl)|apply ay (hd:=rfl)|exact zAD rfl|(apply zBL;exact rfl;exact rfl)|exact zAH rfl|(apply zAC;exact rfl;(with_reducible first|exact zBJ|exact zAu|exact zAe|exact zAb|exact zC0|exact zFS))|(apply zAG;exact rfl;(with_reducible exact zAS);exact rfl;exact rfl)|(refine w0' ?_)|(apply zAl;exact rfl;exact rfl;exact rfl;(with_reducible exact zAS);exact rfl;exact rfl;exact rfl;exact rfl)|(apply zAL;exact rfl)|(apply zAM;exact rfl)|apply zAO|apply eb_n
 all_goals first|omega|skip
 all_goals exact zCe ⟨rfl,zAV zAd (zEb rfl rfl rfl rfl List.length_append rfl rfl rfl rfl rfl rfl rfl (zBW rfl) (zBW rfl) (zBW (congrArg (Ob.buf true _ 5) (zXE r.trs _).symm)) rfl) rfl rfl⟩
end Go.Proofs.YtcagoomibpcdlaaGreatDoor
namespace Go.Proofs.YtcagoomibpcdlaaGreatDoor
open Go.Sx Go.Vm
abbrev zB8(m:Img)(s s':St)(oth oth':List Nat): Prop:=zAW Tryz.prog 22 [.ptr 0 0] (MX m (rawS s oth)) .top (MX m (rawS s' oth'))
abbrev fwd(s:St): St:=s.goto (s.c.at_+1)
theorem zHY{s:St}(oth:List Nat)(hl:s.stack.length≤4000): (rawS (fwd s) oth).stk.length≤1048576:=by rw[zBO];show s.stack.length≤_;omega
theorem zQm{s:St}(m:Img)(oth:List Nat)(hl:s.stack.length≤4000)(h:(fwd s).high 1=true): zAW Tryz.prog 39 [.ptr 0 0,.d (i64 1)] (MX m (rawS (fwd s) oth)) (.d (bl true)) (MX m (rawS ((fwd s).stop 6) oth)):=by
 have h1:(((rawS (fwd s) oth).stk.length:Nat):Int)+1>4000:=by rw[zBO];exact of_decide_eq_true h
 exact zIV m (rawS (fwd s) oth) (k:=1) (zHY oth hl) (by omega) h1
theorem zQn{s:St}(m:Img)(oth:List Nat)(hl:s.stack.length≤4000)(h:(fwd s).high 1=false): zA5 Tryz.prog 39 [.ptr 0 0,.d (i64 1)] (MX m (rawS (fwd s) oth)) (bl false):=by
 have h1:¬(((rawS (fwd s) oth).stk.length:Nat):Int)+1>4000:=by rw[zBO];exact of_decide_eq_false h
 exact zHt m (rawS (fwd s) oth) (k:=1) (zHY oth hl) (by omega) h1
theorem zKG{s:St}(m:Img)(oth:List Nat)(hl:s.stack.length≤4000){k:Nat}(hk:k<s.stack.length): zA5 Tryz.prog 24 [.ptr 0 0,.d (i64 (k:Int))] (MX m (rawS (fwd s) oth)) (w64 (wdN s.all s.ly (s.top k))) :=
 zBl m (rawS (fwd s) oth) (k:=k) (by rw[zBO];exact hk) (zEt (fwd s) oth hk) (zHY oth hl)
theorem zVd{s:St}(m:Img)(oth:List Nat)(hl:s.stack.length≤4000)(r:Rf): zAW Tryz.prog 40 [.ptr 0 0,.d (w64 (wdN s.all s.ly r))] (MX m (rawS (fwd s) oth)) .top (MX m (rawS ((fwd s).instead 0 r) oth)):=by
 rw[zNP]
 exact zGy m (rawS (fwd s) oth) (zHY oth hl)
theorem st_0(m:Img)(s:St)(oth:List Nat){a b:Int}(hc:InsAt m (rawS s oth) ⟨0,a,b⟩): zB8 m s ((fwd s).stop 1) oth oth :=
 zXZ m (rawS s oth) _ hc (zEf m (rawS (fwd s) oth) 1)
theorem st_2(m:Img)(s:St)(oth:List Nat){a b:Int}(hc:InsAt m (rawS s oth) ⟨2,a,b⟩)(hl:s.stack.length≤4000)(ha:0≤a)(hk:a<s.stack.length): zB8 m s ((fwd s).push ((fwd s).top a.toNat)) oth oth:=by
 unfold zB8 St.push
 have e:a=(a.toNat:Int):=(Int.toNat_of_nonneg ha).symm
 split
 ·rename_i h;exact zVE m (rawS s oth) _ hc (zQm m oth hl h)
 ·rename_i h
  have hT:=zKG (s:=s) m oth hl (k:=a.toNat) (by omega)
  rw[←e]at hT
  exact zXY m (rawS s oth) _ hc (zQn m oth hl (by simpa using h)) hT (zVd m oth hl _)
theorem st_4(m:Img)(s:St)(oth:List Nat){a b:Int}(hc:InsAt m (rawS s oth) ⟨4,a,b⟩)(hl:s.stack.length≤4000): zB8 m s ((fwd s).push (fwd s).c.fun_) oth oth:=by
 unfold zB8 St.push
 split
 ·rename_i h;exact zVC m (rawS s oth) _ hc (zQm m oth hl h)
 ·rename_i h
  exact zXW m (rawS s oth) _ hc (zQn m oth hl (by simpa using h)) (zVd m oth hl _)
theorem st_5(m:Img)(s:St)(oth:List Nat){a b:Int}(hc:InsAt m (rawS s oth) ⟨5,a,b⟩)(hl:s.stack.length≤4000)(ha:0≤a)(hk:a≤s.stack.length): zB8 m s { fwd s with stack:=(fwd s).stack.take ((fwd s).stack.length-a.toNat) } oth oth:=by
 unfold zB8
 have e:a=(a.toNat:Int):=(Int.toNat_of_nonneg ha).symm
 have hR:=zIM m (rawS (fwd s) oth) (n:=a.toNat) (zHY oth hl) (by rw[zBO];show _≤s.stack.length;omega)
 rw[←e]at hR
 rw[zNO]
 exact zXV m (rawS s oth) _ hc hR
theorem zYy(m:Img)(s:St)(oth:List Nat){a b:Int}(hc:InsAt m (rawS s oth) ⟨15,a,b⟩): zB8 m s ((fwd s).goto a) oth oth:=zVK m (rawS s oth) hc
theorem zYw(m:Img)(s:St)(oth:List Nat){a b:Int}(hc:InsAt m (rawS s oth) ⟨17,a,b⟩)(h:s.tries.length≤1048576): zB8 m s { fwd s with tries:=(fwd s).tries++[⟨{ (fwd s).c with at_:=a },(fwd s).stack.length,(fwd s).calls.length⟩] } oth oth:=by
 unfold zB8
 rw[zVZ]
 exact zVI m (rawS s oth) hc (by rw[zIu];exact h)
theorem zYz(m:Img)(s:St)(oth:List Nat){a b:Int}(hc:InsAt m (rawS s oth) ⟨14,a,b⟩)(h1:1≤s.tries.length)(h:s.tries.length≤1048576): zB8 m s { fwd s with tries:=(fwd s).tries.dropLast } oth oth:=by
 unfold zB8
 rw[zVa]
 exact zVL m (rawS s oth) hc (by rw[zIu];exact h1) (by rw[zIu];exact h)
end Go.Proofs.YtcagoomibpcdlaaGreatDoor
namespace Go.Proofs.YtcagoomibpcdlaaGreatDoor
open Go.Sx Go.Vm
def zIA(s:St): Prop:=∀t,s.tries.getLast? = some t→(0≤t.height∧t.height≤s.stack.length)∧(0≤t.calls∧t.calls≤s.calls.length)
theorem zKR(m:Img)(s:St)(oth:List Nat)(n:Int)(ht:zIA s)(hl:s.stack.length≤1048576)(hl2:s.calls.length≤1048576)(hl3:s.tries.length≤1048576):
  zAW Tryz.prog 50 [.ptr 0 0,.d (i64 n)] (MX m (rawS s oth)) .top (MX m (rawS (s.raise n) oth)):=by
 cases h:s.tries.getLast? with
 |none =>
  have h0:s.tries=[]:=List.getLast?_eq_none_iff.1 h
  rw[zLD s n oth h0]
  exact zSs m (rawS s oth) n (by show s.tries.map _=[];rw[h0];rfl)
 |some t =>
  obtain⟨h1,h2⟩:=ht t h
  rw[zP4 s n oth h]
  exact zP6 m (rawS s oth) n (zSp s oth h) (by rw[zBO];exact h1) (by rw[zGx];exact h2) (by rw[zBO];exact hl) (by rw[zGx];exact hl2) (by rw[zIu];exact hl3)
def RfOk(s:St): Rf→Prop
 | .n v=>Wn v=v
 | .b i=>wdN s.all s.ly (.b i)<18446744073709551616
theorem st_6(m:Img)(s:St)(oth:List Nat){a b:Int}(hc:InsAt m (rawS s oth) ⟨6,a,b⟩)(hl:s.stack.length≤4000)(ha:0≤a)(hk:a<s.stack.length): zB8 m s ((fwd s).instead (a.toNat+1) ((fwd s).top 0)) oth oth:=by
 unfold zB8
 have e:a+1=((a.toNat+1:Nat):Int):=by omega
 have hT:=zKG (s:=s) m oth hl (k:=0) (by omega)
 have hB:=zEp m (rawS (fwd s) oth) (n:=a.toNat+1) (w:=wdN s.all s.ly (s.top 0)) (zHY oth hl) (by rw[zBO];show _≤s.stack.length;omega)
 rw[←e]at hB
 rw[zD9]
 exact zXU m (rawS s oth) _ hc (by omega) hT hB
theorem zXc(m:Img)(s:St)(oth:List Nat){a b:Int}{i:Nat}(hc:InsAt m (rawS s oth) ⟨13,a,b⟩)(hl:s.stack.length≤4000)(hk:1≤s.stack.length)(hr:s.top 0=.b i)(ho:RfOk s (s.top 0)): zB8 m s ((fwd s).stop 4) oth oth:=by
 rw[hr]at ho
 have hT:=zKG (s:=s) m oth hl (k:=0) (by omega)
 rw[hr]at hT
 exact zSW m (rawS s oth) _ hc hT (zFV m (rawS (fwd s) oth) (zHD s.all s.ly ho))
theorem zY0(m:Img)(s:St)(oth:List Nat){a b x:Int}(hc:InsAt m (rawS s oth) ⟨13,a,b⟩)(hl:s.stack.length≤4000)(hk:1≤s.stack.length)(hr:s.top 0=.n x)(ho:RfOk s (s.top 0))(ht:zIA s)(hl2:s.calls.length≤1048576)(hl3:s.tries.length≤1048576): zB8 m s ((fwd s).raise x) oth oth:=by
 rw[hr]at ho
 have hT:=zKG (s:=s) m oth hl (k:=0) (by omega)
 rw[hr]at hT
 exact zVM m (rawS s oth) _ hc hT (zEA m (rawS (fwd s) oth) (zGN s.all s.ly ho)) (zKR m (fwd s) oth x ht (by show s.stack.length≤_;omega) hl2 hl3)
theorem zXb(m:Img)(s:St)(oth:List Nat){a b:Int}{i:Nat}(hc:InsAt m (rawS s oth) ⟨16,a,b⟩)(hl:s.stack.length≤4000)(hk:1≤s.stack.length)(hr:s.top 0=.b i)(ho:RfOk s (s.top 0)): zB8 m s ((fwd s).stop 4) oth oth:=by
 rw[hr]at ho
 have hT:=zKG (s:=s) m oth hl (k:=0) (by omega)
 rw[hr]at hT
 exact zSV m (rawS s oth) _ hc hT (zFV m (rawS (fwd s) oth) (zHD s.all s.ly ho))
theorem zQu(m:Img)(s:St)(oth:List Nat)(a:Int)(p:Prop)[Decidable p]: zAW Tryz.prog 51 [.ptr 0 0,.d (i64 a),.d (bl (decide p))] (MX m (rawS s oth)) .top (MX m (rawS (if p then s.goto a else s) oth)):=by
 by_cases h:p
 ·rw[decide_eq_true h,if_pos h];exact zTX m (rawS s oth) a
 ·rw[decide_eq_false h,if_neg h];exact zWI m (rawS s oth) a
theorem zYx(m:Img)(s:St)(oth:List Nat){a b x:Int}(hc:InsAt m (rawS s oth) ⟨16,a,b⟩)(hl:s.stack.length≤4000)(hk:1≤s.stack.length)(hr:s.top 0=.n x)(ho:RfOk s (s.top 0)):
  zB8 m s (if x=0 then({ fwd s with stack:=(fwd s).stack.take ((fwd s).stack.length-1) }:St).goto a else { fwd s with stack:=(fwd s).stack.take ((fwd s).stack.length-1) }) oth oth:=by
 rw[hr]at ho
 have hT:=zKG (s:=s) m oth hl (k:=0) (by omega)
 rw[hr]at hT
 have hK:=zIM m (rawS (fwd s) oth) (n:=1) (zHY oth hl) (by rw[zBO];exact hk)
 rw[←zNO]at hK
 exact zVJ m (rawS s oth) _ hc hT (zEA m (rawS (fwd s) oth) (zGN s.all s.ly ho)) hK (zQu m _ oth a (x=0))
theorem zXa(m:Img)(s:St)(oth:List Nat){a b:Int}{i:Nat}(hc:InsAt m (rawS s oth) ⟨20,a,b⟩)(hl:s.stack.length≤4000)(hk:1≤s.stack.length)(hr:s.top 0=.b i)(ho:RfOk s (s.top 0)): zB8 m s ((fwd s).stop 4) oth oth:=by
 rw[hr]at ho
 have hT:=zKG (s:=s) m oth hl (k:=0) (by omega)
 rw[hr]at hT
 exact zST m (rawS s oth) _ hc hT (zFV m (rawS (fwd s) oth) (zHD s.all s.ly ho))
theorem zYt(m:Img)(s:St)(oth:List Nat){a b x:Int}(hc:InsAt m (rawS s oth) ⟨20,a,b⟩)(hl:s.stack.length≤4000)(hk:1≤s.stack.length)(hr:s.top 0=.n x)(ho:RfOk s (s.top 0))(hb:0≤b)(hp:b<m.pool.length):
  zB8 m s (if x≠(m.pool.getD b.toNat default).num then(fwd s).goto a else fwd s) oth oth:=by
 rw[hr]at ho
 have hT:=zKG (s:=s) m oth hl (k:=0) (by omega)
 rw[hr]at hT
 have hlt:b.toNat<m.pool.length:=by omega
 have hg:m.pool[b.toNat]?=some (m.pool.getD b.toNat default):=by rw[List.getD_eq_getElem?_getD,List.getElem?_eq_getElem hlt];rfl
 exact zVF m (rawS s oth) _ hc hT (zEA m (rawS (fwd s) oth) (zGN s.all s.ly ho)) hb hg (zQu m (fwd s) oth a (x≠(m.pool.getD b.toNat default).num))
theorem st_9(m:Img)(s:St)(oth:List Nat){a b:Int}{c:Cl}(hc:InsAt m (rawS s oth) ⟨9,a,b⟩)(hl:s.stack.length≤4000)(hk:1≤s.stack.length)(hcl:s.calls.getLast? = some c)(hl2:s.calls.length≤1048576)(hb:0≤s.c.base∧s.c.base≤s.stack.length):
  zB8 m s { fwd s with stack:=(fwd s).stack.take (fwd s).c.base.toNat++[(fwd s).top 0],c:=((fwd s).calls.getLast?).getD default,calls:=(fwd s).calls.dropLast } oth oth:=by
 unfold zB8
 rw[zSr (fwd s) oth hcl]
 have hw:(rawS (fwd s) oth).stk.getLast? = some (wdN s.all s.ly (s.top 0)):=by
  have:=zEt (fwd s) oth (k:=0) (by exact hk)
  rw[Nat.sub_zero,←List.getLast?_eq_getElem?]at this
  exact this
 have hg:(rawS (fwd s) oth).cls.getLast? = some (rcl s.all s.ly c):=by
  show (s.calls.map (rcl s.all s.ly)).getLast? = _
  rw[List.getLast?_map,hcl];rfl
 exact zXR m (rawS s oth) _ hc (zTn m (rawS (fwd s) oth) hg hw (by rw[zBO];exact hb) (zHY oth hl) (by rw[zGx];exact hl2))
end Go.Proofs.YtcagoomibpcdlaaGreatDoor
namespace Go.Proofs.YtcagoomibpcdlaaGreatDoor
open Go.Sx Go.Vm
theorem Wn_W(n:Int): Wn (W n)=Wn n:=by unfold Wn W;omega
theorem W_of{n:Int}(h:Wn n=n): W n=n:=by unfold Wn at h;unfold W;omega
theorem nW_W(n:Int): nW (W n)=nW n:=by unfold nW numR;rw[Wn_W]
theorem zKF{s:St}(oth:List Nat)(h2:2≤s.stack.length)(hl:s.stack.length≤1048576): Tops (rawS s oth) (wdN s.all s.ly (s.top 1)) (wdN s.all s.ly (s.top 0)) :=
 ⟨by rw[zBO];exact h2,zEt s oth (by omega),zEt s oth (by omega),by rw[zBO];exact hl⟩
theorem zG1(s:St)(oth:List Nat)(x:Int): ({ rawS s oth with stk:=(rawS s oth).stk.take ((rawS s oth).stk.length-2)++[nW x] }:Raw)=rawS (s.numI 2 x) oth:=(zIQ s 2 x oth).symm
theorem zX1(m:Img)(s s':St)(oth:List Nat){f:FuncId}{x y:Int}(hb:zAQ Tryz.prog f=true)(h2:2≤s.stack.length)(hl:s.stack.length≤1048576)(h1:s.top 1=.n x)(h0:s.top 0=.n y)(o1:RfOk s (s.top 1))(o0:RfOk s (s.top 0))
  (hF:zAW Tryz.prog f [.d (i64 x),.d (i64 y),.ptr 9 0] (MXb m (rawS s oth)) .top (MXb m (rawS s' oth))):zAW Tryz.prog 79 [.ptr 0 0,.clo f [9]] (MXb m (rawS s oth)) .top (MXb m (rawS s' oth)):=by
 have ht:=zKF oth h2 hl
 rw[h1]at ht o1;rw[h0]at ht o0
 exact ints_ok m (rawS s oth) _ hb ht (zGN s.all s.ly o1) (zGN s.all s.ly o0) hF
theorem zV2(m:Img)(s:St)(oth:List Nat){f:FuncId}{i:Nat}(h2:2≤s.stack.length)(hl:s.stack.length≤1048576)(h1:s.top 1=.b i)(o1:RfOk s (s.top 1)): zAW Tryz.prog 79 [.ptr 0 0,.clo f [9]] (MXb m (rawS s oth)) .top (MXb m (rawS (s.stop 4) oth)):=by
 have ht:=zKF oth h2 hl
 rw[h1]at ht o1
 exact zTL m (rawS s oth) ht (zHD s.all s.ly o1)
theorem zV3(m:Img)(s:St)(oth:List Nat){f:FuncId}{x:Int}{i:Nat}(h2:2≤s.stack.length)(hl:s.stack.length≤1048576)(h1:s.top 1=.n x)(h0:s.top 0=.b i)(o1:RfOk s (s.top 1))(o0:RfOk s (s.top 0)): zAW Tryz.prog 79 [.ptr 0 0,.clo f [9]] (MXb m (rawS s oth)) .top (MXb m (rawS (s.stop 4) oth)):=by
 have ht:=zKF oth h2 hl
 rw[h1]at ht o1;rw[h0]at ht o0
 exact zTM m (rawS s oth) ht (zGN s.all s.ly o1) (zHD s.all s.ly o0)
theorem zZU(m:Img)(s:St)(oth:List Nat)(x y:Int)(h2:2≤s.stack.length)(hl:s.stack.length≤1048576): zAW Tryz.prog 80 [.d (i64 x),.d (i64 y),.ptr 9 0] (MXb m (rawS s oth)) .top (MXb m (rawS (s.ints 0 x y) oth)):=by
 have h:=pAdd m (rawS s oth) x y (by rw[zBO];exact hl) (by rw[zBO];exact h2)
 rw[nW_W,zG1]at h
 exact h
theorem zYr(m:Img)(s:St)(oth:List Nat)(x y:Int)(h2:2≤s.stack.length)(hl:s.stack.length≤1048576): zAW Tryz.prog 83 [.d (i64 x),.d (i64 y),.ptr 9 0] (MXb m (rawS s oth)) .top (MXb m (rawS (s.ints 1 x y) oth)):=by
 have h:=pSub m (rawS s oth) x y (by rw[zBO];exact hl) (by rw[zBO];exact h2)
 rw[nW_W,zG1]at h
 exact h
theorem zY8(m:Img)(s:St)(oth:List Nat)(x y:Int)(h2:2≤s.stack.length)(hl:s.stack.length≤1048576): zAW Tryz.prog 85 [.d (i64 x),.d (i64 y),.ptr 9 0] (MXb m (rawS s oth)) .top (MXb m (rawS (s.ints 2 x y) oth)):=by
 have h:=pMul m (rawS s oth) x y (by rw[zBO];exact hl) (by rw[zBO];exact h2)
 rw[nW_W,zG1]at h
 exact h
theorem eq_m(m:Img)(s:St)(oth:List Nat)(x y:Int)(h2:2≤s.stack.length)(hl:s.stack.length≤1048576): zAW Tryz.prog 92 [.d (i64 x),.d (i64 y),.ptr 9 0] (MXb m (rawS s oth)) .top (MXb m (rawS (s.ints 5 x y) oth)):=by
 have h:=pEq m (rawS s oth) x y (by rw[zBO];exact hl) (by rw[zBO];exact h2)
 rw[zG1]at h
 rw[show s.ints 5 x y=s.numI 2 (if decide (x=y)=true then 1 else 0) by simp[St.ints]]
 exact h
theorem zXz(m:Img)(s:St)(oth:List Nat)(x y:Int)(h2:2≤s.stack.length)(hl:s.stack.length≤1048576): zAW Tryz.prog 94 [.d (i64 x),.d (i64 y),.ptr 9 0] (MXb m (rawS s oth)) .top (MXb m (rawS (s.ints 6 x y) oth)):=by
 have h:=zY6 m (rawS s oth) x y (by rw[zBO];exact hl) (by rw[zBO];exact h2)
 rw[zG1]at h
 rw[show s.ints 6 x y=s.numI 2 (if decide (x<y)=true then 1 else 0) by simp[St.ints]]
 exact h
theorem zZP(m:Img)(s:St)(oth:List Nat){x y:Int}(hx:Wn x=x)(hy:Wn y=y)(h2:2≤s.stack.length)(hl:s.stack.length≤1048576)(ht:zIA s)(hl2:s.calls.length≤1048576)(hl3:s.tries.length≤1048576): zAW Tryz.prog 87 [.d (i64 x),.d (i64 y),.ptr 9 0] (MXb m (rawS s oth)) .top (MXb m (rawS (s.ints 3 x y) oth)):=by
 have ex:=W_of hx
 have ey:=W_of hy
 refine pDiv m (rawS s oth) _ x y ?_
 by_cases h0:y=0
 ·rw[show s.ints 3 x y=s.raise (-2) by simp[St.ints,h0],zE0 (by rw[ey];exact h0)]
  exact zM6 m (rawS s oth) _ _ (by decide) (zKR m s oth (-2) ht hl hl2 hl3)
 ·have h:=zM5 m (rawS s oth) (divV x y) (by rw[zBO];exact hl) (by rw[zBO];exact h2)
  rw[show s.ints 3 x y=s.numI 2 (x.tdiv y) by simp[St.ints,h0],zE1 (by rw[ey];exact h0)]
  have e:nW (divV x y)=nW (x.tdiv y):=by rw[divV,if_neg (by rw[ey];exact h0),ex,ey,nW_W]
  rw[e,zG1]at h
  exact h
theorem zY9(m:Img)(s:St)(oth:List Nat){x y:Int}(hx:Wn x=x)(hy:Wn y=y)(h2:2≤s.stack.length)(hl:s.stack.length≤1048576)(ht:zIA s)(hl2:s.calls.length≤1048576)(hl3:s.tries.length≤1048576): zAW Tryz.prog 90 [.d (i64 x),.d (i64 y),.ptr 9 0] (MXb m (rawS s oth)) .top (MXb m (rawS (s.ints 4 x y) oth)):=by
 have ex:=W_of hx
 have ey:=W_of hy
 refine pMod m (rawS s oth) _ x y ?_
 by_cases h0:y=0
 ·rw[show s.ints 4 x y=s.raise (-2) by simp[St.ints,h0],zE0 (by rw[ey];exact h0)]
  exact zM6 m (rawS s oth) _ _ (by decide) (zKR m s oth (-2) ht hl hl2 hl3)
 ·have h:=zM5 m (rawS s oth) (modV x y) (by rw[zBO];exact hl) (by rw[zBO];exact h2)
  rw[show s.ints 4 x y=s.numI 2 (x.tmod y) by simp[St.ints,h0],zE1 (by rw[ey];exact h0)]
  have e:nW (modV x y)=nW (x.tmod y):=by rw[modV,if_neg (by rw[ey];exact h0),ex,ey]
  rw[e,zG1]at h
  exact h
end Go.Proofs.YtcagoomibpcdlaaGreatDoor
namespace Go.Proofs.YtcagoomibpcdlaaGreatDoor
open Go.Sx Go.Vm
def two(s:St)(p:Int): St:=match s.top 1,s.top 0 with
 | .n x,.n y=>s.ints p x y
 |_,_=>s.stop 4
theorem zSu(shw:Int→List UInt8)(s:St){p:Int}(h:0≤p∧p<7): s.prim shw p=two s p:=by
 have ht:takes p=2:=by unfold takes;rw[if_neg (by omega),if_pos (by omega)]
 unfold St.prim two
 simp only[ht,if_pos h.2]
 rfl
abbrev zGt(m:Img)(s s':St)(oth oth':List Nat)(p:Int): Prop:=zAW Tryz.prog 48 [.ptr 0 0,.d (i64 p)] (MX m (rawS s oth)) .top (MX m (rawS s' oth'))
theorem zMK(m:Img)(s:St)(oth:List Nat){p:Int}{f:FuncId}(hb:zAQ Tryz.prog f=true)(h2:2≤s.stack.length)(hl:s.stack.length≤1048576)(o1:RfOk s (s.top 1))(o0:RfOk s (s.top 0))
  (hP:∀r',zAW Tryz.prog 79 [.ptr 0 0,.clo f [9]] (MXb m (rawS s oth)) .top (MXb m r')→zAW Tryz.prog 48 [.ptr 0 0,.d (i64 p)] (MX m (rawS s oth)) .top (MX m r'))
  (hO:∀x y,Wn x=x→Wn y=y→zAW Tryz.prog f [.d (i64 x),.d (i64 y),.ptr 9 0] (MXb m (rawS s oth)) .top (MXb m (rawS (s.ints p x y) oth))):zGt m s (two s p) oth oth p:=by
 refine hP _ ?_
 cases h1:s.top 1 with
 |b i =>
  rw[show two s p=s.stop 4 by unfold two;rw[h1]]
  exact zV2 m s oth h2 hl h1 o1
 |n x =>
  cases h0:s.top 0 with
  |b i =>
   rw[show two s p=s.stop 4 by unfold two;rw[h1,h0]]
   exact zV3 m s oth h2 hl h1 h0 o1 o0
  |n y =>
   rw[show two s p=s.ints p x y by unfold two;rw[h1,h0]]
   refine zX1 m s _ oth hb h2 hl h1 h0 o1 o0 (hO x y ?_ ?_)
   ·rw[h1]at o1;exact o1
   ·rw[h0]at o0;exact o0
theorem zQA(m:Img)(shw:Int→List UInt8)(s:St)(oth:List Nat){p:Int}(h:0≤p∧p<7)(h2:2≤s.stack.length)(hl:s.stack.length≤1048576)(o1:RfOk s (s.top 1))(o0:RfOk s (s.top 0))(ht:zIA s)(hl2:s.calls.length≤1048576)(hl3:s.tries.length≤1048576): zGt m s (s.prim shw p) oth oth p:=by
 rw[zSu shw s h]
 obtain rfl|rfl|rfl|rfl|rfl|rfl|rfl:p=0∨p=1∨p=2∨p=3∨p=4∨p=5∨p=6:=by omega
 ·exact zMK m s oth zLX h2 hl o1 o0 (fun r' h=>zQH m _ r' h) fun x y _ _=>zZU m s oth x y h2 hl
 ·exact zMK m s oth zLW h2 hl o1 o0 (fun r' h=>zQG m _ r' h) fun x y _ _=>zYr m s oth x y h2 hl
 ·exact zMK m s oth zLV h2 hl o1 o0 (fun r' h=>zQF m _ r' h) fun x y _ _=>zY8 m s oth x y h2 hl
 ·exact zMK m s oth zLU h2 hl o1 o0 (fun r' h=>zQE m _ r' h) fun x y hx hy=>zZP m s oth hx hy h2 hl ht hl2 hl3
 ·exact zMK m s oth zLT h2 hl o1 o0 (fun r' h=>zQD m _ r' h) fun x y hx hy=>zY9 m s oth hx hy h2 hl ht hl2 hl3
 ·exact zMK m s oth zLS h2 hl o1 o0 (fun r' h=>zQC m _ r' h) fun x y _ _=>eq_m m s oth x y h2 hl
 ·exact zMK m s oth zLR h2 hl o1 o0 (fun r' h=>zQB m _ r' h) fun x y _ _=>zXz m s oth x y h2 hl
theorem zLy{s:St}(oth:List Nat){n:Nat}(h:n≤s.stack.length)(h1:1≤n)(hl:s.stack.length≤1048576): Arg (rawS s oth) n (wdN s.all s.ly (s.top (n-1))) :=
 ⟨by rw[zBO];exact h,h1,zEt s oth (by omega),by rw[zBO];exact hl⟩
theorem zMS(m:Img)(s:St)(oth:List Nat)(h1:1≤s.stack.length)(hl:s.stack.length≤1048576)(o0:RfOk s (s.top 0))(ho:s.out.length≤1048576): zGt m s (s.prim shw 12) oth oth 12:=by
 have ha:=zLy oth (n:=1) h1 (by omega) hl
 have ht:takes 12=1:=rfl
 cases h0:s.top 0 with
 |n x =>
  have hx:Wn x=x:=by rw[h0]at o0;exact o0
  rw[show s.prim shw 12=s.put (shw x) by simp[St.prim,ht,h0]]
  rw[Nat.sub_self,h0]at ha
  have h:=zP9 m (rawS s oth) ha (zGN s.all s.ly hx) ho
  rw[W_of hx]at h
  exact h
 |b i =>
  rw[show s.prim shw 12=s.stop 4 by simp[St.prim,ht,h0]]
  rw[Nat.sub_self,h0]at ha
  rw[h0]at o0
  exact zLE m (rawS s oth) ha (zHD s.all s.ly o0)
end Go.Proofs.YtcagoomibpcdlaaGreatDoor
namespace Go.Proofs.YtcagoomibpcdlaaGreatDoor
open Go.Sx Go.Vm
variable {m:Img}{A:Nat→Option VS}
theorem zHp{o:Thing}(h:Ov m A o): HeadOk o:=by
 refine⟨?_,h.tag,?_⟩
 ·have:=h.kind;omega
 ·unfold Thing.size Thing.need
  have h1:=h.few
  split
  ·rename_i h4;have:=(h.txt h4).2.2;omega
  ·omega
theorem zKX{o:Thing}(h:o.kind≠4): o.size=o.parts.length:=by unfold Thing.size Thing.need;rw[if_neg h];omega
theorem zHU{s:St}{i:Nat}(hi:i∈s.ly): (zBj s.all s.ly)[offL s.all s.ly i]?=some (zCm (zAX s.all i)):=by
 have:=zLx (all:=s.all) (f:=zCv s.all s.ly) (zC2 s.all s.ly) hi (k:=0) (zFl _)
 rw[Nat.add_zero]at this
 exact this
theorem zKa{s:St}{i k:Nat}(hi:i∈s.ly)(hk:k<(zAX s.all i).size): (zBj s.all s.ly)[offL s.all s.ly i+1+k]?=(zEz s.all s.ly (zAX s.all i))[k]?:=by
 have:=zLx (all:=s.all) (f:=zCv s.all s.ly) (zC2 s.all s.ly) hi (k:=k+1) (by have:=zDI (zAX s.all i);omega)
 rw[show offL s.all s.ly i+1+k=offL s.all s.ly i+(k+1) by omega]
 exact this
theorem zG2{s:St}(h:Lay m A s)(hw:s.words≤1048576): (zBj s.all s.ly).length≤1048576:=by
 rw[zEK]
 have h1:=h.used
 have h2:=h.room
 omega
theorem zIF{s:St}(h:Lay m A s)(hw:s.words≤1048576)(oth:List Nat){i:Nat}(hi:i∈s.ly):
  BlkQ (rawS s oth) (wdN s.all s.ly (.b i)) (zAX s.all i).kind (zAX s.all i).tag (if(zAX s.all i).kind=4 then 0 else((zAX s.all i).size:Int)) true :=
 zIe s.words (zBj s.all s.ly) oth (begL s.all s.ly s.words.toNat) (zHU hi) (zHp (h.objs i (h.lt i hi))) (zG2 h hw) (zJP hi)
theorem zNS{s:St}(h:Lay m A s)(hw:s.words≤1048576)(oth:List Nat){i k:Nat}(hi:i∈s.ly)(h4:(zAX s.all i).kind≠4)(hk:k<(zAX s.all i).parts.length):
  zA5 Tryz.prog 41 [.ptr 0 0,.d (w64 (wdN s.all s.ly (.b i))),.d (i64 (k:Int))] (HO (rawS s oth).size (rawS s oth).now (rawS s oth).oth (rawS s oth).beg) (.tup [w64 (wdN s.all s.ly ((zAX s.all i).parts.getD k default)),bl true]):=by
 have hz:=zKX h4
 have hb:=zKa hi (k:=k) (by omega)
 have hg:(zEz s.all s.ly (zAX s.all i))[k]?=some (wdN s.all s.ly ((zAX s.all i).parts.getD k default)):=by
  rw[zEz,if_neg h4,List.getElem?_map,List.getD_eq_getElem?_getD,List.getElem?_eq_getElem hk];rfl
 rw[hg]at hb
 exact zRi s.words (zBj s.all s.ly) oth (begL s.all s.ly s.words.toNat) (zHU hi) (zHp (h.objs i (h.lt i hi))) (zG2 h hw) (zJP hi) h4 (by omega) hb
theorem zPY{s:St}(h:Lay m A s)(hw:s.words≤1048576)(oth:List Nat){i:Nat}(hi:i∈s.ly)(h4:(zAX s.all i).kind=4): TxtQ (rawS s oth) (wdN s.all s.ly (.b i)) (zAX s.all i).text:=by
 have ho:=h.objs i (h.lt i hi)
 have ht:=ho.txt h4
 refine zWr s.words (zBj s.all s.ly) oth (begL s.all s.ly s.words.toNat) (zHU hi) (zHp ho) h4 ht.2.1 ht.2.2 (zG2 h hw) (zJP hi) fun q hq=>?_
 rw[zKa hi hq,zEz,if_pos h4]
theorem zXr{s:St}(h:Lay m A s)(hw:s.words≤1048576){i:Nat}(hi:i∈s.ly): offL s.all s.ly i<1048576:=by
 have h1:=zLK (all:=s.all) hi
 have h2:=zFl (zAX s.all i)
 have h3:=h.used
 have h4:=h.room
 omega
theorem zP2{s:St}(h:Lay m A s)(hw:s.words≤1048576){r:Rf}(hv:Val s r): RfOk s r:=by
 cases r with
 |n v=>exact hv.num
 |b i =>
  have:=zXr h hw (hv.ly i rfl)
  show 2*offL s.all s.ly i<_
  omega
theorem of_t{s:St}(h:Lay m A s)(hw:s.words≤1048576)(oth:List Nat){r:Rf}(hv:Val s r){k:Int}(hk:s.of r k=true): zA5 Tryz.prog 52 [.ptr 0 0,.d (w64 (wdN s.all s.ly r)),.d (i64 k)] (MX m (rawS s oth)) (bl true):=by
 cases r with
 |n v=>cases hk
 |b i =>
  have e:(zAX s.all i).kind=k:=of_decide_eq_true hk
  have hB:=zIF h hw oth (hv.ly i rfl)
  rw[e]at hB
  exact zFA m (rawS s oth) hB
theorem of_f{s:St}(h:Lay m A s)(hw:s.words≤1048576)(oth:List Nat){r:Rf}(hv:Val s r){k:Int}(hk:s.of r k=false): zAW Tryz.prog 52 [.ptr 0 0,.d (w64 (wdN s.all s.ly r)),.d (i64 k)] (MX m (rawS s oth)) (.d (bl false)) (MX m (rawS (s.stop 4) oth)):=by
 cases r with
 |n v =>
  obtain⟨h1,h2⟩:=zM7 s.all s.ly v
  exact zXs m (rawS s oth) (zRt s.words (zBj s.all s.ly) oth (begL s.all s.ly s.words.toNat) h1 h2) (.inl rfl)
 |b i =>
  have e:(zAX s.all i).kind≠k:=of_decide_eq_false hk
  exact zXs m (rawS s oth) (zIF h hw oth (hv.ly i rfl)) (.inr e)
end Go.Proofs.YtcagoomibpcdlaaGreatDoor
namespace Go.Proofs.YtcagoomibpcdlaaGreatDoor
open Go.Sx Go.Vm
variable {m:Img}{A:Nat→Option VS}
theorem of_b{s:St}{r:Rf}{k:Int}(h:s.of r k=true): ∃i,r=.b i∧(zAX s.all i).kind=k:=by
 cases r with
 |n v=>cases h
 |b i=>exact⟨i,rfl,of_decide_eq_true h⟩
theorem zYL{s:St}(h:Lay m A s)(hw:s.words≤1048576)(oth:List Nat)(tail:Bool)(h2:2≤s.stack.length)(hl:s.stack.length≤1048576)(hc:s.calls.length≤1000)(hb:0≤s.c.base∧s.c.base≤s.stack.length)(hv:Val s (s.top 1)):
  zAW Tryz.prog 44 [.ptr 0 0,.d (bl tail)] (MX m (rawS s oth)) .top (MX m (rawS (s.app tail) oth)):=by
 have ht:Top2 (rawS s oth) (wdN s.all s.ly (s.top 1)) (wdN s.all s.ly (s.top 0)):=⟨by rw[zBO];exact h2,zEt s oth (by omega),zEt s oth (by omega),by rw[zBO];exact hl⟩
 cases hof:s.of (s.top 1) 2 with
 |false =>
  rw[show s.app tail=s.stop 4 by simp[St.app,hof]]
  exact zTt m (rawS s oth) tail ht (of_f h hw oth hv hof)
 |true =>
  obtain⟨i,e,hk⟩:=of_b hof
  have hi:=hv.ly i e
  have hB:=zIF h hw oth hi
  rw[hk]at hB
  rw[e]at ht
  have ho:s.of (.b i) 2=true:=e▸hof
  cases tail with
  |true =>
   rw[show s.app true = { s with stack:=s.stack.take s.c.base.toNat++[s.top 0],c:=⟨(zAX s.all i).tag,s.c.base,.b i⟩ } by simp[St.app,ho,e,St.obj,zAX],zSn]
   exact zPA m (rawS s oth) ht (by rw[zBO];exact hb) hB
  |false =>
   by_cases hq:s.calls.length≥1000
   ·rw[show s.app false=s.stop 6 by simp[St.app,hof,hq]]
    have hO:=of_t h hw oth hv hof
    rw[e]at hO
    exact zPB m (rawS s oth) ht (by rw[zGx];omega) hO
   ·rw[show s.app false = { s with calls:=s.calls++[s.c],stack:=s.stack.take (s.stack.length-2)++[s.top 0],c:=⟨(zAX s.all i).tag,(s.stack.length:Int)-2,.b i⟩ } by simp[St.app,ho,e,St.obj,zAX,hq],zSq]
    exact zPC m (rawS s oth) ht (by rw[zGx];omega) hB
theorem zGE{s:St}(h:Lay m A s): Lay m A (fwd s):=h.sub rfl rfl rfl rfl fun _r hr=>h.val hr
theorem st_7{s:St}(h:Lay m A s)(hw:s.words≤1048576)(oth:List Nat){a b:Int}(hc:InsAt m (rawS s oth) ⟨7,a,b⟩)(h2:2≤s.stack.length)(hl:s.stack.length≤4000)(hq:s.calls.length≤1000)(hb:0≤s.c.base∧s.c.base≤s.stack.length)(hv:Val s (s.top 1)): zB8 m s ((fwd s).app false) oth oth :=
 zXT m (rawS s oth) _ hc (zYL (s:=fwd s) (zGE h) hw oth false h2 (by show s.stack.length≤_;omega) hq hb ⟨hv.num,hv.ly⟩)
theorem st_8{s:St}(h:Lay m A s)(hw:s.words≤1048576)(oth:List Nat){a b:Int}(hc:InsAt m (rawS s oth) ⟨8,a,b⟩)(h2:2≤s.stack.length)(hl:s.stack.length≤4000)(hq:s.calls.length≤1000)(hb:0≤s.c.base∧s.c.base≤s.stack.length)(hv:Val s (s.top 1)): zB8 m s ((fwd s).app true) oth oth :=
 zXS m (rawS s oth) _ hc (zYL (s:=fwd s) (zGE h) hw oth true h2 (by show s.stack.length≤_;omega) hq hb ⟨hv.num,hv.ly⟩)
theorem st_3{s:St}(h:Lay m A s)(hw:s.words≤1048576)(oth:List Nat){a b:Int}{i:Nat}(hc:InsAt m (rawS s oth) ⟨3,a,b⟩)(hl:s.stack.length≤4000)(hf:s.c.fun_=.b i)(hk:(zAX s.all i).kind=2)(ha:0≤a)(hp:a<(zAX s.all i).parts.length):
  zB8 m s ((fwd s).push (((fwd s).obj (fwd s).c.fun_).parts.getD a.toNat default)) oth oth:=by
 have hi:i∈s.ly:=h.fun_.ly i hf
 have e:a=(a.toNat:Int):=(Int.toNat_of_nonneg ha).symm
 unfold zB8 St.push
 split
 ·rename_i hh;exact zVD m (rawS s oth) _ hc (zQm m oth hl hh)
 ·rename_i hh
  have hX:=zNS h hw oth hi (k:=a.toNat) (by omega) (by omega)
  rw[←e,←hf]at hX
  have ho:((fwd s).obj (fwd s).c.fun_)=zAX s.all i:=by show s.obj s.c.fun_=_;rw[hf];rfl
  rw[ho]
  exact zXX m (rawS s oth) _ hc (zQn m oth hl (by simpa using hh)) hX (zVd m oth hl _)
theorem zWM{s:St}(h:Lay m A s)(hw:s.words≤1048576)(oth:List Nat){a:Int}(ha:0≤a)(h1:1≤s.stack.length)(hl:s.stack.length≤1048576)(hv:Val s (s.top 0)):
  zAW Tryz.prog 47 [.ptr 0 0,.d (i64 a)] (MX m (rawS s oth)) .top (MX m (rawS (if !s.of (s.top 0) 1||decide (a≥((s.obj (s.top 0)).parts.length:Int))then s.stop 4 else s.instead 1 ((s.obj (s.top 0)).parts.getD a.toNat default)) oth)):=by
 have g1:1≤(rawS s oth).stk.length:=by rw[zBO];exact h1
 have g2:(rawS s oth).stk.length≤1048576:=by rw[zBO];exact hl
 have ht:=zEt s oth (k:=0) (by omega)
 cases hof:s.of (s.top 0) 1 with
 |false=>exact zTb m (rawS s oth) a g1 ht g2 (of_f h hw oth hv hof)
 |true =>
  obtain⟨i,e,hk⟩:=of_b hof
  have hi:=hv.ly i e
  have ho:=h.objs i (h.lt i hi)
  have hB:=zIF h hw oth hi
  have hz:=zKX (o:=zAX s.all i) (by omega)
  rw[e]at ht
  rw[hk]at hB
  have eo:s.obj (s.top 0)=zAX s.all i:=by rw[e];rfl
  rw[eo]
  by_cases hp:a≥((zAX s.all i).parts.length:Int)
  ·rw[decide_eq_true hp]
   have hP:=zWw s.words (zBj s.all s.ly) oth (begL s.all s.ly s.words.toNat) (zHU hi) (zHp ho) (zG2 h hw) (zJP hi) (k:=a) (by rw[if_neg (by omega),hz];exact hp)
   exact zQy m (rawS s oth) a g1 ht g2 hB hP
  ·rw[decide_eq_false hp]
   have hX:=zNS h hw oth hi (k:=a.toNat) (by omega) (by omega)
   rw[←(Int.toNat_of_nonneg ha)]at *
   have hf:=zTa m (rawS s oth) _ g1 ht g2 hB hX
   rw[←zD9]at hf
   exact hf
theorem zY1{s:St}(h:Lay m A s)(hw:s.words≤1048576)(oth:List Nat){a b:Int}(hc:InsAt m (rawS s oth) ⟨11,a,b⟩)(ha:0≤a)(h1:1≤s.stack.length)(hl:s.stack.length≤4000)(hv:Val s (s.top 0)):
  zB8 m s (if !(fwd s).of ((fwd s).top 0) 1||decide (a≥(((fwd s).obj ((fwd s).top 0)).parts.length:Int))then(fwd s).stop 4 else(fwd s).instead 1 (((fwd s).obj ((fwd s).top 0)).parts.getD a.toNat default)) oth oth :=
 zVO m (rawS s oth) _ hc (zWM (s:=fwd s) (zGE h) hw oth ha h1 (by show s.stack.length≤_;omega) ⟨hv.num,hv.ly⟩)
theorem zOe(shw:Int→List UInt8){s:St}(h:Lay m A s)(hw:s.words≤1048576)(oth:List Nat)(h1:1≤s.stack.length)(hl:s.stack.length≤1048576)(hv:Val s (s.top 0)): zGt m s (s.prim shw 8) oth oth 8:=by
 have ha:=zLy oth (n:=1) h1 (by omega) hl
 rw[Nat.sub_self]at ha
 have ht:takes 8=1:=rfl
 refine zMT m _ _ ?_
 cases hof:s.of (s.top 0) 4 with
 |false =>
  rw[show s.prim shw 8=s.stop 4 by simp[St.prim,ht,hof]]
  exact zQS m (rawS s oth) ha (of_f h hw oth hv hof)
 |true =>
  obtain⟨i,e,hk⟩:=of_b hof
  have hi:=hv.ly i e
  have hB:=zIF h hw oth hi
  rw[hk]at hB
  rw[e]at ha
  rw[show s.prim shw 8=s.numI 1 (zAX s.all i).text.length by simp[St.prim,ht,hof];rw[e];rfl,zIQ]
  exact zQT m (rawS s oth) ha hB (zPY h hw oth hi hk)
theorem zOc(shw:Int→List UInt8){s:St}(h:Lay m A s)(hw:s.words≤1048576)(oth:List Nat)(h1:1≤s.stack.length)(hl:s.stack.length≤1048576)(hv:Val s (s.top 0))(ho:s.out.length≤1048576): zGt m s (s.prim shw 13) oth oth 13:=by
 have ha:=zLy oth (n:=1) h1 (by omega) hl
 rw[Nat.sub_self]at ha
 have ht:takes 13=1:=rfl
 refine zLF m _ _ ?_
 cases hof:s.of (s.top 0) 4 with
 |false =>
  rw[show s.prim shw 13=s.stop 4 by simp[St.prim,ht,hof]]
  exact zOj m (rawS s oth) ha (of_f h hw oth hv hof)
 |true =>
  obtain⟨i,e,hk⟩:=of_b hof
  have hi:=hv.ly i e
  have hB:=zIF h hw oth hi
  rw[hk]at hB
  rw[e]at ha
  rw[show s.prim shw 13=(s.put (zAX s.all i).text).numI 1 0 by simp[St.prim,ht,hof];rw[e];rfl,zIQ]
  exact zQR m (rawS s oth) ha hB (zPY h hw oth hi hk) ho
theorem zOf(shw:Int→List UInt8){s:St}(h:Lay m A s)(hw:s.words≤1048576)(oth:List Nat)(h1:1≤s.stack.length)(hl:s.stack.length≤1048576)(hv:Val s (s.top 0)): zGt m s (s.prim shw 10) oth oth 10:=by
 have ha:=zLy oth (n:=1) h1 (by omega) hl
 rw[Nat.sub_self]at ha
 have ht:takes 10=1:=rfl
 refine zLH m _ _ ?_
 cases hof:s.of (s.top 0) 3 with
 |false =>
  rw[show s.prim shw 10=s.stop 4 by simp[St.prim,ht,hof]]
  exact zOl m (rawS s oth) ha (of_f h hw oth hv hof)
 |true =>
  obtain⟨i,e,hk⟩:=of_b hof
  have hi:=hv.ly i e
  have hB:=zIF h hw oth hi
  rw[hk]at hB
  rw[e]at ha
  have hc:=(h.objs i (h.lt i hi)).cell hk
  rw[show s.prim shw 10=s.instead 1 ((zAX s.all i).parts.getD 0 default) by simp[St.prim,ht,hof];rw[e];rfl,zD9]
  exact zQU m (rawS s oth) ha hB (zNS h hw oth hi (k:=0) (by omega) (by omega))
end Go.Proofs.YtcagoomibpcdlaaGreatDoor
namespace Go.Proofs.YtcagoomibpcdlaaGreatDoor
open Go.Sx Go.Vm
variable {m:Img}{A:Nat→Option VS}
theorem zYu{s:St}(h:Lay m A s)(hw:s.words≤1048576)(oth:List Nat){a b:Int}(hc:InsAt m (rawS s oth) ⟨19,a,b⟩)(h1:1≤s.stack.length)(hl:s.stack.length≤4000)(hv:Val s (s.top 0)):
  zB8 m s (if !(fwd s).of ((fwd s).top 0) 1 then(fwd s).stop 4 else if((fwd s).obj ((fwd s).top 0)).tag≠b then(fwd s).goto a else fwd s) oth oth:=by
 have hL:=zGE h
 have hT:=zKG (s:=s) m oth hl (k:=0) (by omega)
 cases hof:s.of (s.top 0) 1 with
 |false =>
  have e:(fwd s).of ((fwd s).top 0) 1=false:=hof
  rw[e]
  exact zSU m (rawS s oth) _ hc hT (of_f (s:=fwd s) hL hw oth ⟨hv.num,hv.ly⟩ hof)
 |true =>
  have e:(fwd s).of ((fwd s).top 0) 1=true:=hof
  rw[e]
  obtain⟨i,e1,hk⟩:=of_b hof
  have hi:=hv.ly i e1
  have hB:=zIF h hw oth hi
  rw[hk]at hB
  have hO:=of_t (s:=fwd s) hL hw oth (r:=s.top 0) ⟨hv.num,hv.ly⟩ hof
  have eo:(fwd s).obj ((fwd s).top 0)=zAX s.all i:=by show s.obj (s.top 0)=_;rw[e1];rfl
  rw[eo]
  rw[←e1]at hB
  exact zVG m (rawS s oth) _ hc hT hO hB (zQu m (fwd s) oth a ((zAX s.all i).tag≠b))
end Go.Proofs.YtcagoomibpcdlaaGreatDoor
namespace Go.Proofs.YtcagoomibpcdlaaGreatDoor
open Go.Sx Go.Vm
theorem zLC(s:St)(oth:List Nat): rtsR (rawS s oth)=s.roots.map (wdN s.all s.ly):=by
 simp[rtsR,rawS,St.roots,rcl,rty,List.map_map,Function.comp_def]
theorem zNC(all:List Thing)(ly ly':List Nat)(rest:List Nat): ∀(l:List Cl),setC (l.map (rcl all ly)) ((l.map (·.fun_)).map (wdN all ly')++rest)=l.map (rcl all ly')
 |[]=>by simp[setC]
 |c::l=>by
  have:=zNC all ly ly' rest l
  simp only[setC]at this
  simp only[setC,List.map_cons,List.cons_append,List.zipWith_cons_cons,this]
  rfl
theorem zNB(all:List Thing)(ly ly':List Nat)(rest:List Nat): ∀(l:List Ty),setT (l.map (rty all ly)) ((l.map (·.c.fun_)).map (wdN all ly')++rest)=l.map (rty all ly')
 |[]=>by simp[setT]
 |c::l=>by
  have:=zNB all ly ly' rest l
  simp only[setT]at this
  simp only[setT,List.map_cons,List.cons_append,List.zipWith_cons_cons,this]
  rfl
theorem zXn(s:St)(oth oth':List Nat)(ly':List Nat)(u:Int):
  rawS { s with used:=u,ly:=ly' } oth'=gcR (rawS s oth) (zBj s.all ly') oth' (begL s.all ly' s.words.toNat) (s.roots.map (wdN s.all ly')):=by
 have hl:(rawS s oth).stk.length=(s.stack.map (wdN s.all ly')).length:=by rw[zBO,List.length_map]
 have hc:(rawS s oth).cls.length=((s.calls.map (·.fun_)).map (wdN s.all ly')).length:=by rw[zGx,List.length_map,List.length_map]
 have hw:s.roots.map (wdN s.all ly')=s.stack.map (wdN s.all ly')++(wdN s.all ly' s.c.fun_::((s.calls.map (·.fun_)).map (wdN s.all ly')++((s.tries.map (·.c.fun_)).map (wdN s.all ly')++[]))):=by
  simp[St.roots]
 have e1:(s.roots.map (wdN s.all ly')).take (rawS s oth).stk.length=s.stack.map (wdN s.all ly'):=by rw[hl,hw,List.take_left'];rfl
 have e2:(s.roots.map (wdN s.all ly')).getD (rawS s oth).stk.length 0=wdN s.all ly' s.c.fun_:=by
  rw[hl,hw,List.getD_eq_getElem?_getD,List.getElem?_append_right (Nat.le_refl _),Nat.sub_self];rfl
 have e3:(s.roots.map (wdN s.all ly')).drop ((rawS s oth).stk.length+1)=(s.calls.map (·.fun_)).map (wdN s.all ly')++((s.tries.map (·.c.fun_)).map (wdN s.all ly')++[]):=by
  rw[←List.drop_drop,hl,hw,List.drop_left']
  ·rfl
  ·rfl
 have e4:(s.roots.map (wdN s.all ly')).drop ((rawS s oth).stk.length+1+(rawS s oth).cls.length)=(s.tries.map (·.c.fun_)).map (wdN s.all ly')++[]:=by
  rw[←List.drop_drop,e3,hc,List.drop_left'];rfl
 unfold gcR
 rw[e1,e2,e3,e4]
 have h5:=zNC s.all s.ly ly' ((s.tries.map (·.c.fun_)).map (wdN s.all ly')++[]) s.calls
 have h6:=zNB s.all s.ly ly' [] s.tries
 have h5':setC (rawS s oth).cls ((s.calls.map (·.fun_)).map (wdN s.all ly')++((s.tries.map (·.c.fun_)).map (wdN s.all ly')++[]))=s.calls.map (rcl s.all ly'):=h5
 have h6':setT (rawS s oth).trs ((s.tries.map (·.c.fun_)).map (wdN s.all ly')++[])=s.tries.map (rty s.all ly'):=h6
 rw[h5',h6']
 rfl
end Go.Proofs.YtcagoomibpcdlaaGreatDoor
namespace Go.Proofs.YtcagoomibpcdlaaGreatDoor
open Go.Sx Go.Vm
variable {m:Img}{A:Nat→Option VS}
theorem zUJ{s:St}(h:Lay m A s)(hw0:0≤s.words)(hw:s.words≤1048576)(hl:s.stack.length≤200000∧s.calls.length≤200000∧s.tries.length≤200000)(oth:List Nat)(n:Nat):
  ∃oth',zAW Tryz.prog 76 [.ptr 0 0,.d (i64 (n:Int))] (MX m (rawS s oth)) (.d (bl (decide ((n:Int)≤(s.gc n).words-(s.gc n).used)))) (MX m (rawS (if(n:Int)≤(s.gc n).words-(s.gc n).used then s.gc n else(s.gc n).stop 5) oth')):=by
 have hlen:(((rawS s oth).now.length:Nat):Int)=s.used:=by show (((zBj s.all s.ly).length:Nat):Int)=_;rw[zEK,h.used]
 have hn:=zG2 h hw
 by_cases hq:s.words-s.used<(n:Int)
 ·have eg:s.gc n = { s with used:=(live s.all s.roots:Int),ly:=zDc s.all s.roots }:=by rw[St.gc,if_pos hq]
  have hlv:=zVw h
  have hrl:s.roots.length≤1048576:=by
   simp only[St.roots,List.length_append,List.length_cons,List.length_map];omega
  have hsz:sumN s.all s.ly≤s.words.toNat:=by have h1:=h.used;have h2:=h.room;omega
  have hC:=zPK (all:=s.all) (ly:=s.ly) (size:=s.words.toNat) oth s.roots h.nodup h.lt h.closed
   (fun i hi=>⟨zHp (h.objs i (h.lt i hi)),by have:=(h.objs i (h.lt i hi)).kind;omega⟩) (fun i hi h4=>((h.objs i (h.lt i hi)).txt h4).1) hsz (by omega) (fun r hr i e=>h.roots i (e▸hr)) hrl
  have ew:((s.words.toNat:Nat):Int)=s.words:=Int.toNat_of_nonneg hw0
  rw[ew]at hC
  have hrr:(rtsR (rawS s oth)).length=s.roots.length:=by rw[zLC,List.length_map]
  have en:(((zBj s.all (zDc s.all s.roots)).length:Nat):Int)=(live s.all s.roots:Int):=by rw[zEK];rfl
  have hC':zAW Tryz.prog 130 [.ptr 0 0,.buf 4 (rtsR (rawS s oth)).length] (HO (rawS s oth).size (rawS s oth).now (rawS s oth).oth (rawS s oth).beg++[rowW (rtsR (rawS s oth))]) (.buf 6 (rtsR (rawS s oth)).length) (HO (rawS s oth).size (zBj s.all (zDc s.all s.roots)) (nowM s.all s.ly (zDc s.all s.roots)) (begL s.all (zDc s.all s.roots) s.words.toNat)++[rowW (rtsR (rawS s oth)),Ob.gone,rowW (s.roots.map (wdN s.all (zDc s.all s.roots)))]):=by
   rw[hrr,zLC];exact hC
  refine⟨nowM s.all s.ly (zDc s.all s.roots),?_⟩
  rw[eg]
  have hg:=zXn s oth (nowM s.all s.ly (zDc s.all s.roots)) (zDc s.all s.roots) (live s.all s.roots:Int)
  refine zVY m (rawS s oth) _ (n:Int) _ ⟨hw0,hw⟩ hn (by have:=h.room;omega) (by rw[hlen];show ¬(n:Int)≤s.words-s.used;omega) ⟨by rw[zBO];exact hl.1,by rw[zGx];exact hl.2.1,by rw[zIu];exact hl.2.2⟩ hC' (by rw[hrr,List.length_map]) ?_
  by_cases hq2:(n:Int)≤s.words-(live s.all s.roots:Int)
  ·refine .inl ⟨by rw[en];exact hq2,decide_eq_true hq2,?_⟩
   rw[if_pos hq2];exact hg
  ·refine .inr ⟨by rw[en];exact hq2,decide_eq_false hq2,?_⟩
   rw[if_neg hq2,zSo,hg]
 ·have eg:s.gc n=s:=by rw[St.gc,if_neg hq]
  have h1:(n:Int)≤s.words-s.used:=by omega
  refine⟨oth,?_⟩
  rw[eg,if_pos h1,decide_eq_true h1]
  exact zQe (zSh m (rawS s oth) (n:Int) ⟨hw0,hw⟩ hn (by rw[hlen];exact h1))
end Go.Proofs.YtcagoomibpcdlaaGreatDoor
namespace Go.Proofs.YtcagoomibpcdlaaGreatDoor
open Go.Sx Go.Vm
variable {m:Img}{A:Nat→Option VS}
theorem zVb{s:St}(h:Lay m A s)(oth:List Nat)(o:Thing)(ho:∀r∈o.parts,In s.ly r)(hr:s.used+(o.need:Int)≤s.words):
  rawS { s with used:=s.used+(o.need:Int),all:=s.all++[o],ly:=s.ly++[s.all.length] } oth = { rawS s oth with now:=(rawS s oth).now++zCm o::zEz s.all s.ly o,beg:=(rawS s oth).beg.set (rawS s oth).now.length true }:=by
 have hv:∀r∈s.roots,wdN (s.all++[o]) (s.ly++[s.all.length]) r=wdN s.all s.ly r:=fun r hr=>zPR h.lt fun i e=>h.roots i (e▸hr)
 have e1:s.stack.map (wdN (s.all++[o]) (s.ly++[s.all.length]))=s.stack.map (wdN s.all s.ly):=List.map_congr_left fun r hr=>hv r (zDd.2 (.inl hr))
 have e2:rcl (s.all++[o]) (s.ly++[s.all.length]) s.c=rcl s.all s.ly s.c:=by
  unfold rcl;rw[hv _ (zDd.2 (.inr (.inl rfl)))]
 have e3:s.calls.map (rcl (s.all++[o]) (s.ly++[s.all.length]))=s.calls.map (rcl s.all s.ly):=List.map_congr_left fun c hc=>by
  unfold rcl;rw[hv _ (zDd.2 (.inr (.inr (.inl ⟨c,hc,rfl⟩))))]
 have e4:s.tries.map (rty (s.all++[o]) (s.ly++[s.all.length]))=s.tries.map (rty s.all s.ly):=List.map_congr_left fun t ht=>by
  unfold rty rcl;rw[hv _ (zDd.2 (.inr (.inr (.inr ⟨t,ht,rfl⟩))))]
 have e5:=zPP (o:=o) h.lt h.closed ho
 have e6:=zWZ (o:=o) (size:=s.words.toNat) h.lt (by have:=h.used;omega)
 have e7:(zBj s.all s.ly).length=sumN s.all s.ly:=zEK _ _
 unfold rawS
 dsimp only
 rw[e1,e2,e3,e4,e5,e6,e7]
theorem zP5{s:St}(h:Lay m A s)(oth:List Nat)(o:Thing)(n:Nat)(ho:∀r∈o.parts,In s.ly r)(hr:s.used+(o.need:Int)≤s.words):
  rawS (s.new o n) oth = { rawS s oth with now:=(rawS s oth).now++zCm o::zEz s.all s.ly o,beg:=(rawS s oth).beg.set (rawS s oth).now.length true,stk:=(rawS s oth).stk.take ((rawS s oth).stk.length-n)++[2*(rawS s oth).now.length] }:=by
 have e:wdN (s.all++[o]) (s.ly++[s.all.length]) (.b s.all.length)=2*(zBj s.all s.ly).length:=by
  rw[wdN,zIT fun hm=>Nat.lt_irrefl _ (h.lt _ hm),zHI h.lt,zEK]
 unfold St.new
 rw[zD9,zVb h oth o ho hr]
 dsimp only
 rw[e]
 rfl
end Go.Proofs.YtcagoomibpcdlaaGreatDoor
namespace Go.Proofs.YtcagoomibpcdlaaGreatDoor
open Go.Sx Go.Vm
variable {m:Img}{A:Nat→Option VS}
theorem zPW{s:St}(h:Lay m A s)(hw:s.words≤1048576)(oth:List Nat){r:Rf}(hv:Val s r): zA5 Tryz.prog 131 [.ptr 0 0,.d (w64 (wdN s.all s.ly r))] (HO (rawS s oth).size (rawS s oth).now (rawS s oth).oth (rawS s oth).beg) (bl true):=by
 cases r with
 |n v =>
  obtain⟨h1,h2⟩:=zM7 s.all s.ly v
  exact zPV s.words (zBj s.all s.ly) oth (begL s.all s.ly s.words.toNat) h1 h2
 |b i =>
  have hi:=hv.ly i rfl
  have h1:=zLK (all:=s.all) hi
  have h2:=zFl (zAX s.all i)
  have h3:=zEK s.all s.ly
  exact zSF s.words (zBj s.all s.ly) oth (begL s.all s.ly s.words.toNat) (a:=offL s.all s.ly i) (by omega) (zG2 h hw) (zJP hi)
theorem zNo(s:St)(n:Nat): (s.gc n).stack=s.stack:=by unfold St.gc;split <;> rfl
theorem zNn(s:St)(n:Nat): (s.gc n).words=s.words:=by unfold St.gc;split <;> rfl
theorem zWX{s:St}(h:Lay m A s)(hw0:0≤s.words)(hw:s.words≤1048576)(hl:s.stack.length≤4000∧s.calls.length≤200000∧s.tries.length≤200000)(oth:List Nat)(o:Thing)(ho:HeadOk o)(hk:o.kind≤3)(n:Nat)(hz:o.size=n)(hn:n≤s.stack.length)(hp:o.parts=s.partsT n):
  ∃oth',zAW Tryz.prog 46 [.ptr 0 0,.d (i64 o.kind),.d (i64 o.tag),.d (i64 (n:Int))] (MX m (rawS s oth)) .top (MX m (rawS (s.block o n) oth')):=by
 subst hz
 have g1:(rawS s oth).stk.length≤1048576:=by rw[zBO];omega
 cases hh:s.high (1-o.size)with
 |true =>
  rw[show s.block o o.size=s.stop 6 by rw[St.block,hh];rfl]
  exact⟨oth,zO3 m (rawS s oth) o g1 (by omega) (by rw[zBO];exact of_decide_eq_true hh)⟩
 |false =>
  have hq:¬(((rawS s oth).stk.length:Nat):Int)+(1-(o.size:Int))>4000:=by rw[zBO];exact of_decide_eq_false hh
  rw[show s.block o o.size=(s.gc o.need).alloc o o.size by rw[St.block,hh];rfl]
  obtain⟨oth',hR⟩:=zUJ h hw0 hw ⟨by omega,hl.2⟩ oth o.need
  have hs:=zDI o
  refine⟨oth',?_⟩
  have hL:=h.gc (n:=o.need)
  have es:=zNo s o.need
  have ew:=zNn s o.need
  by_cases hf:(o.need:Int)≤(s.gc o.need).words-(s.gc o.need).used
  ·rw[if_pos hf,decide_eq_true hf,hs]at hR
   rw[show (s.gc o.need).alloc o o.size=(s.gc o.need).new o o.size by rw[St.alloc,if_neg (by omega)]]
   have hb:o.kind≠4:=by omega
   have hnow:(rawS (s.gc (o.size+1)) oth').now.length=sumN (s.gc (o.size+1)).all (s.gc (o.size+1)).ly:=zEK _ _
   rw[hs]at hL es ew hf ⊢
   have hu:=hL.used
   have hro:=hL.room
   have hpp:o.parts=(s.gc (o.size+1)).stack.drop ((s.gc (o.size+1)).stack.length-o.size):=by rw[es,hp];rfl
   have hst:(rawS (s.gc (o.size+1)) oth').stk.length=s.stack.length:=by rw[zBO,es]
   have hbl:((rawS (s.gc (o.size+1)) oth').beg.length:Int)=(s.gc (o.size+1)).words:=by
    show (((begL _ _ _).length:Nat):Int)=_
    rw[zJO _ _ (by omega)];omega
   have hB:=zRB m (rawS s oth) (rawS (s.gc (o.size+1)) oth') o ho hk g1 (by omega) hq hR ⟨by show 0≤(s.gc _).words;omega,by show (s.gc _).words≤_;omega⟩ (by rw[hnow];show _≤(s.gc _).words;omega) hbl (by omega) (by omega) (fun i x hi hx=>by
    have hx':(((s.gc (o.size+1)).stack.map (wdN (s.gc (o.size+1)).all (s.gc (o.size+1)).ly)))[(rawS (s.gc (o.size+1)) oth').stk.length-o.size+i]?=some x:=hx
    rw[List.getElem?_map]at hx'
    obtain⟨r,hr,rfl⟩:=Option.map_eq_some_iff.1 hx'
    exact zPW hL (by omega) oth' (hL.stack (List.mem_of_getElem? hr)))
   rw[zP5 hL oth' o o.size (fun r hr i e=>hL.roots i (by rw[hpp]at hr;exact e▸zDd.2 (.inl (List.mem_of_mem_drop hr)))) (by omega)]
   have hbody:zEz (s.gc (o.size+1)).all (s.gc (o.size+1)).ly o=(rawS (s.gc (o.size+1)) oth').stk.drop ((rawS (s.gc (o.size+1)) oth').stk.length-o.size):=by
    rw[zEz,if_neg hb,zBO]
    conv=>lhs;rw[hpp]
    rw[List.map_drop];rfl
   rw[hbody]
   exact hB
  ·rw[if_neg hf,decide_eq_false hf,hs]at hR
   rw[show (s.gc o.need).alloc o o.size=(s.gc o.need).stop 5 by rw[St.alloc,if_pos (by omega)]]
   rw[hs]
   exact zO2 m (rawS s oth) _ o g1 (by omega) hq hR
end Go.Proofs.YtcagoomibpcdlaaGreatDoor
namespace Go.Proofs.YtcagoomibpcdlaaGreatDoor
open Go.Sx Go.Vm
variable {m:Img}{A:Nat→Option VS}
theorem zQN(s:St){n:Nat}(h:n≤s.stack.length): (s.partsT n).length=n:=by unfold St.partsT;rw[List.length_drop];omega
theorem zVs(s:St){k tag:Int}(hk:k≠4){n:Nat}(h:n≤s.stack.length): (⟨k,tag,[],s.partsT n⟩:Thing).size=n:=by
 unfold Thing.size Thing.need
 rw[if_neg hk]
 show 1+(s.partsT n).length-1=n
 rw[zQN s h];omega
theorem zQf{s:St}(h:Lay m A s)(hw0:0≤s.words)(hw:s.words≤1048576)(hl:s.stack.length≤4000∧s.calls.length≤200000∧s.tries.length≤200000)(oth:List Nat){k tag:Int}(hk:1≤k∧k≤3)(ht:0≤tag∧tag≤1048576){n:Nat}(hn:n≤s.stack.length):
  ∃oth',zAW Tryz.prog 46 [.ptr 0 0,.d (i64 k),.d (i64 tag),.d (i64 (n:Int))] (MX m (rawS s oth)) .top (MX m (rawS (s.block ⟨k,tag,[],s.partsT n⟩ n) oth')):=by
 have hz:=zVs s (k:=k) (tag:=tag) (by omega) hn
 exact zWX h hw0 hw hl oth ⟨k,tag,[],s.partsT n⟩ ⟨by show 1≤k∧k≤4;omega,ht,by rw[hz];omega⟩ hk.2 n hz hn rfl
theorem zY2{s:St}(h:Lay m A s)(hw0:0≤s.words)(hw:s.words≤1048576)(hl:s.stack.length≤4000∧s.calls.length≤200000∧s.tries.length≤200000)(oth:List Nat){a b:Int}(hc:InsAt m (rawS s oth) ⟨10,a,b⟩)(ha:0≤a∧a≤1048576)(hb:0≤b)(hn:b≤s.stack.length):
  ∃oth',zB8 m s ((fwd s).block ⟨1,a,[],(fwd s).partsT b.toNat⟩ b.toNat) oth oth':=by
 obtain⟨oth',hR⟩:=zQf (s:=fwd s) (zGE h) hw0 hw hl oth (k:=1) (tag:=a) (by omega) ha (n:=b.toNat) (by show _≤s.stack.length;omega)
 rw[Int.toNat_of_nonneg hb]at hR
 exact⟨oth',zVP m (rawS s oth) _ hc hR⟩
theorem zYv{s:St}(h:Lay m A s)(hw0:0≤s.words)(hw:s.words≤1048576)(hl:s.stack.length≤4000∧s.calls.length≤200000∧s.tries.length≤200000)(oth:List Nat){a b:Int}(hc:InsAt m (rawS s oth) ⟨18,a,b⟩)(ha:0≤a∧a≤1048576)(hb:0≤b)(hn:b≤s.stack.length):
  ∃oth',zB8 m s ((fwd s).block ⟨2,a,[],(fwd s).partsT b.toNat⟩ b.toNat) oth oth':=by
 obtain⟨oth',hR⟩:=zQf (s:=fwd s) (zGE h) hw0 hw hl oth (k:=2) (tag:=a) (by omega) ha (n:=b.toNat) (by show _≤s.stack.length;omega)
 rw[Int.toNat_of_nonneg hb]at hR
 exact⟨oth',zVH m (rawS s oth) _ hc hR⟩
theorem zOd(shw:Int→List UInt8){s:St}(h:Lay m A s)(hw0:0≤s.words)(hw:s.words≤1048576)(hl:s.stack.length≤4000∧s.calls.length≤200000∧s.tries.length≤200000)(oth:List Nat)(h1:1≤s.stack.length): ∃oth',zGt m s (s.prim shw 9) oth oth' 9:=by
 obtain⟨oth',hR⟩:=zQf h hw0 hw hl oth (k:=3) (tag:=0) (by omega) (by omega) (n:=1) h1
 exact⟨oth',zSv m _ _ hR⟩
end Go.Proofs.YtcagoomibpcdlaaGreatDoor
namespace Go.Proofs.YtcagoomibpcdlaaGreatDoor
open Go.Sx Go.Vm
variable {m:Img}{A:Nat→Option VS}
theorem zUE{s:St}(h:Lay m A s)(hw0:0≤s.words)(hw:s.words≤1048576)(hl:s.stack.length≤4000∧s.calls.length≤200000∧s.tries.length≤200000)(oth:List Nat)(t:List UInt8)(ht:t.length≤200)(n:Nat)(hn:n≤s.stack.length):
  ∃oth',zAW Tryz.prog 75 [.ptr 0 0,.d (str t),.d (i64 (n:Int))] (MX m (rawS s oth)) .top (MX m (rawS (s.block (zB4 t) n) oth')):=by
 have g1:(rawS s oth).stk.length≤1048576:=by rw[zBO];omega
 have en:(zB4 t).need=(t.length+7) / 8+1:=by unfold Thing.need zB4;rw[if_pos rfl];show 1+(t.length+7) / 8=_;omega
 cases hh:s.high (1-n)with
 |true =>
  rw[show s.block (zB4 t) n=s.stop 6 by rw[St.block,hh];rfl]
  exact⟨oth,zPd m (rawS s oth) t n g1 (by omega) (by rw[zBO];exact of_decide_eq_true hh)⟩
 |false =>
  have hq:¬(((rawS s oth).stk.length:Nat):Int)+(1-(n:Int))>4000:=by rw[zBO];exact of_decide_eq_false hh
  rw[show s.block (zB4 t) n=(s.gc (zB4 t).need).alloc (zB4 t) n by rw[St.block,hh];rfl]
  obtain⟨oth',hR⟩:=zUJ h hw0 hw ⟨by omega,hl.2⟩ oth (zB4 t).need
  refine⟨oth',?_⟩
  have hL:=h.gc (n:=(zB4 t).need)
  have es:=zNo s (zB4 t).need
  have ew:=zNn s (zB4 t).need
  by_cases hf:((zB4 t).need:Int)≤(s.gc (zB4 t).need).words-(s.gc (zB4 t).need).used
  ·rw[if_pos hf,decide_eq_true hf,en]at hR
   rw[show (s.gc (zB4 t).need).alloc (zB4 t) n=(s.gc (zB4 t).need).new (zB4 t) n by rw[St.alloc,if_neg (by omega)]]
   have hnow:(rawS (s.gc ((t.length+7) / 8+1)) oth').now.length=sumN (s.gc ((t.length+7) / 8+1)).all (s.gc ((t.length+7) / 8+1)).ly:=zEK _ _
   have en':=en
   rw[en]at hL es ew hf ⊢
   have hu:=hL.used
   have hro:=hL.room
   have hst:(rawS (s.gc ((t.length+7) / 8+1)) oth').stk.length=s.stack.length:=by rw[zBO,es]
   have hbl:((rawS (s.gc ((t.length+7) / 8+1)) oth').beg.length:Int)=(s.gc ((t.length+7) / 8+1)).words:=by
    show (((begL _ _ _).length:Nat):Int)=_
    rw[zJO _ _ (by omega)];omega
   have hB:=zSP m (rawS s oth) (rawS (s.gc ((t.length+7) / 8+1)) oth') t ht n g1 (by omega) hq hR ⟨by show 0≤(s.gc _).words;omega,by show (s.gc _).words≤_;omega⟩ (by rw[hnow,en'];show _≤(s.gc _).words;omega) hbl (by omega) (by omega)
   rw[zP5 hL oth' (zB4 t) n (fun r hr=>absurd hr (by simp[zB4])) (by rw[en'];omega)]
   exact hB
  ·rw[if_neg hf,decide_eq_false hf,en]at hR
   rw[show (s.gc (zB4 t).need).alloc (zB4 t) n=(s.gc (zB4 t).need).stop 5 by rw[St.alloc,if_pos (by omega)]]
   rw[en]
   exact zPc m (rawS s oth) _ t ht n g1 (by omega) hq hR
end Go.Proofs.YtcagoomibpcdlaaGreatDoor
namespace Go.Proofs.YtcagoomibpcdlaaGreatDoor
open Go.Sx Go.Vm
variable {m:Img}{A:Nat→Option VS}
theorem st_1{s:St}(h:Lay m A s)(hi:ImgOk m)(hw0:0≤s.words)(hw:s.words≤1048576)(hl:s.stack.length≤4000∧s.calls.length≤200000∧s.tries.length≤200000)(oth:List Nat){a b:Int}(hc:InsAt m (rawS s oth) ⟨1,a,b⟩)(ha:0≤a)(hp:a<m.pool.length):
  ∃oth',zB8 m s (if(m.pool.getD a.toNat default).isText then(fwd s).block (zB4 (m.pool.getD a.toNat default).text) 0 else(fwd s).push (numR (m.pool.getD a.toNat default).num)) oth oth':=by
 have hlt:a.toNat<m.pool.length:=by omega
 have hg:m.pool[a.toNat]?=some (m.pool.getD a.toNat default):=by rw[List.getD_eq_getElem?_getD,List.getElem?_eq_getElem hlt];rfl
 have hth:=hi.thing _ (List.mem_of_getElem? hg)
 generalize m.pool.getD a.toNat default=c at hg hth ⊢
 have e:a=(a.toNat:Int):=(Int.toNat_of_nonneg ha).symm
 have hpl:m.pool.length≤1048576:=by have:=hi.pool;omega
 have g2:=zHY (s:=s) oth hl.1
 obtain⟨t,x,w⟩:=c
 cases t with
 |true =>
  obtain⟨oth',hR⟩:=zUE (s:=fwd s) (zGE h) hw0 hw hl oth w (hth.1 rfl) 0 (Nat.zero_le _)
  have hP:=zQL m (rawS (fwd s) oth) _ hg hpl hR
  rw[←e]at hP
  exact⟨oth',zPl m (rawS s oth) _ hc hP⟩
 |false =>
  refine⟨oth,?_⟩
  show zB8 m s ((fwd s).push (numR x)) oth oth
  unfold zB8 St.push
  split
  ·rename_i hh
   have hP:=zQM m (rawS (fwd s) oth) hg hpl g2 (by rw[zBO];exact of_decide_eq_true hh)
   rw[←e]at hP
   exact zPl m (rawS s oth) _ hc hP
  ·rename_i hh
   have hh':(fwd s).high 1=false:=by simpa using hh
   have hP:=zSx m (rawS (fwd s) oth) hg hpl g2 (by rw[zBO];exact of_decide_eq_false hh')
   rw[←e]at hP
   rw[zNP]
   exact zPl m (rawS s oth) _ hc hP
end Go.Proofs.YtcagoomibpcdlaaGreatDoor
namespace Go.Proofs.YtcagoomibpcdlaaGreatDoor
open Go.Sx Go.Vm
variable {m:Img}{A:Nat→Option VS}
theorem zOg(shw:Int→List UInt8){s:St}(h:Lay m A s)(hw0:0≤s.words)(hw:s.words≤1048576)(hl:s.stack.length≤4000∧s.calls.length≤200000∧s.tries.length≤200000)(oth:List Nat)(h2:2≤s.stack.length)(hv1:Val s (s.top 1))(hv0:Val s (s.top 0))(hlo:zIA s): ∃oth',zGt m s (s.prim shw 7) oth oth' 7:=by
 have htk:takes 7=2:=rfl
 have ht:=zKF oth h2 (by omega)
 cases ho1:s.of (s.top 1) 4 with
 |false =>
  refine⟨oth,zGa m _ _ ?_⟩
  rw[show s.prim shw 7=s.stop 4 by simp[St.prim,htk,ho1]]
  exact zPa m (rawS s oth) ht (of_f h hw oth hv1 ho1)
 |true =>
  obtain⟨i,e1,hk1⟩:=of_b ho1
  have hB1:=zIF h hw oth (hv1.ly i e1)
  have hX1:=zPY h hw oth (hv1.ly i e1) hk1
  rw[hk1]at hB1
  cases ho0:s.of (s.top 0) 4 with
  |false =>
   refine⟨oth,zGa m _ _ ?_⟩
   rw[show s.prim shw 7=s.stop 4 by simp[St.prim,htk,ho0]]
   rw[e1]at ht
   exact zPb m (rawS s oth) ht hB1 (of_f h hw oth hv0 ho0)
  |true =>
   obtain⟨j,e0,hk0⟩:=of_b ho0
   have hB0:=zIF h hw oth (hv0.ly j e0)
   have hX0:=zPY h hw oth (hv0.ly j e0) hk0
   rw[hk0]at hB0
   rw[e1,e0]at ht
   have l1:=((h.objs i (h.lt i (hv1.ly i e1))).txt hk1).2.2
   have l0:=((h.objs j (h.lt j (hv0.ly j e0))).txt hk0).2.2
   have eo1:s.obj (s.top 1)=zAX s.all i:=by rw[e1];rfl
   have eo0:s.obj (s.top 0)=zAX s.all j:=by rw[e0];rfl
   by_cases hg:((zAX s.all i).text.length:Int)+(zAX s.all j).text.length>200
   ·refine⟨oth,zGa m _ _ ?_⟩
    rw[show s.prim shw 7=s.raise (-3) by
     simp only[St.prim,htk,ho1,ho0,eo1,eo0,show Int.toNat 2-1=1 from rfl]
     rw[if_neg (by decide),if_pos trivial,if_neg (by decide),if_pos (by rw[List.length_append];omega)]]
    exact zOR m (rawS s oth) _ ht hB1 hB0 hX1 hX0 l1 l0 hg (zKR m s oth (-3) hlo (by omega) (by omega) (by omega))
   ·obtain⟨oth',hR⟩:=zUE h hw0 hw hl oth ((zAX s.all i).text++(zAX s.all j).text) (by rw[List.length_append];omega) 2 h2
    refine⟨oth',zGa m _ _ ?_⟩
    rw[show s.prim shw 7=s.block (zB4 ((zAX s.all i).text++(zAX s.all j).text)) 2 by
     simp only[St.prim,htk,ho1,ho0,eo1,eo0,show Int.toNat 2-1=1 from rfl]
     rw[if_neg (by decide),if_pos trivial,if_neg (by decide),if_neg (by rw[List.length_append];omega)]]
    exact zSO m (rawS s oth) _ ht hB1 hB0 hX1 hX0 l1 l0 hg hR
end Go.Proofs.YtcagoomibpcdlaaGreatDoor
namespace Go.Proofs.YtcagoomibpcdlaaGreatDoor
open Go.Sx Go.Vm
variable {m:Img}{A:Nat→Option VS}
theorem zSm(s:St)(oth:List Nat){i:Nat}{b:Rf}(hn:s.ly.Nodup)(hi:i∈s.ly)(hlt:i<s.all.length)(hk:(zAX s.all i).kind=3)(hp:(zAX s.all i).parts.length=1):
  rawS { s with all:=s.all.set i ((zAX s.all i).with0 b) } oth = { rawS s oth with now:=(zBj s.all s.ly).set (offL s.all s.ly i+1+0) (wdN s.all s.ly b) }:=by
 have hw:=zKw (zKM hlt b) s.ly
 have hb:=zO4 (zKM hlt b) s.ly s.words.toNat
 have e:∀c:Cl,rcl (s.all.set i ((zAX s.all i).with0 b)) s.ly c=rcl s.all s.ly c:=fun c=>by unfold rcl;rw[hw]
 have e1:rcl (s.all.set i ((zAX s.all i).with0 b)) s.ly=rcl s.all s.ly:=funext e
 have e2:rty (s.all.set i ((zAX s.all i).with0 b)) s.ly=rty s.all s.ly:=funext fun t=>by unfold rty;rw[e]
 unfold rawS
 dsimp only
 rw[zPO hn hi hlt hk hp,hb,hw,e1,e2]
theorem zOb(shw:Int→List UInt8){s:St}(h:Lay m A s)(hw:s.words≤1048576)(oth:List Nat)(h2:2≤s.stack.length)(hl:s.stack.length≤1048576)(hv1:Val s (s.top 1))(hv0:Val s (s.top 0)): zGt m s (s.prim shw 11) oth oth 11:=by
 have ha:=zLy oth (n:=2) h2 (by omega) hl
 have ht:takes 11=2:=rfl
 refine zLG m _ _ ?_
 cases hof:s.of (s.top 1) 3 with
 |false =>
  rw[show s.prim shw 11=s.stop 4 by
   simp only[St.prim,ht,show Int.toNat 2-1=1 from rfl]
   rw[if_neg (by decide),if_neg (by decide),if_neg (by decide),if_neg (by decide),if_neg (by decide),if_neg (by decide),if_pos (by decide)]
   cases e:s.top 1 with
   |n v=>rfl
   |b i =>
    rw[e]at hof
    have:¬(s.all.getD i default).kind=3:=of_decide_eq_false hof
    dsimp only
    rw[if_pos this]]
  exact zOk m (rawS s oth) ha (of_f h hw oth hv1 hof)
 |true =>
  obtain⟨i,e,hk⟩:=of_b hof
  have hi:=hv1.ly i e
  have hlt:=h.lt i hi
  have ho:=h.objs i hlt
  have hB:=zIF h hw oth hi
  rw[hk]at hB
  rw[show 2-1=1 from rfl,e]at ha
  have hc:=ho.cell hk
  have hz:=zKX (o:=zAX s.all i) (by omega)
  have hx:∃x,(zBj s.all s.ly)[offL s.all s.ly i+1+0]?=some x:=by
   rw[zKa hi (k:=0) (by omega)]
   exact⟨_,List.getElem?_eq_getElem (by rw[zKq];omega)⟩
  obtain⟨x,hx⟩:=hx
  have hP:=zPI s.words (zBj s.all s.ly) oth (begL s.all s.ly s.words.toNat) (zHU hi) (zHp ho) (zG2 h hw) (zJP hi) (k:=0) (by omega) (by omega) hx (zPW h hw oth hv0)
  have hS:=zQQ m (rawS s oth) ha (zEt s oth (k:=0) (by omega)) hB hP
  rw[show s.prim shw 11=({ s with all:=s.all.set i ((zAX s.all i).with0 (s.top 0)) }:St).numI 2 0 by
   simp only[St.prim,ht,show Int.toNat 2-1=1 from rfl]
   rw[if_neg (by decide),if_neg (by decide),if_neg (by decide),if_neg (by decide),if_neg (by decide),if_neg (by decide),if_pos (by decide)]
   rw[e]
   dsimp only
   rw[if_neg (by
    have:(s.all.getD i default).kind=3:=hk
    omega)]
   rfl]
  rw[zIQ,zSm s oth h.nodup hi hlt hk hc]
  exact hS
end Go.Proofs.YtcagoomibpcdlaaGreatDoor
namespace Go.Proofs.YtcagoomibpcdlaaGreatDoor
open Go.Sx Go.Vm
variable {con:List UInt8→Bool}{m:Img}{A:Nat→Option VS}
theorem zS7{k:Int}(h:zKZ m k=true)(hk:0≤k): k<m.pool.length:=by
 unfold zKZ at h
 cases hp:m.pool[k.toNat]? with
 |none=>rw[hp]at h;cases h
 |some c=>have:=(List.getElem?_eq_some_iff.1 hp).1;omega
theorem zVy{s:St}(h:MOk con m A s): zIA s:=fun t ht=>by
 obtain⟨_,h1,h2,h3,h4⟩:=h.fr.raise t ht
 exact⟨⟨h1,h2⟩,h3,h4⟩
theorem zX2{s:St}{i:Ins}{v:VS}{ts0 ts1:List Ty}(nw:Now con m A s i v ts0 ts1)(hi:ImgOk m)(oth:List Nat): InsAt m (rawS s oth) ⟨i.op,i.a,i.b⟩ :=
 ⟨nw.here.at_,nw.at_,by have:=hi.code;omega⟩
theorem zXq{s:St}(h:Lay m A s)(hw0:0≤s.words)(hw:s.words≤1048576)(hl:s.stack.length≤4000∧s.calls.length≤200000∧s.tries.length≤200000)(ho:s.out.length≤1048576)(oth:List Nat)(hlo:zIA s){p:Int}(hp0:0≤p)(hp:p≤13)(hn:takes p≤s.stack.length): ∃oth',zGt m s (s.prim shw p) oth oth' p:=by
 have hv:∀k,k<s.stack.length→Val s (s.top k):=fun k hk=>h.stack (zEX hk)
 by_cases h7:p<7
 ·have ht:takes p=2:=by unfold takes;rw[if_neg (by omega),if_pos (by omega)]
  have h2:2≤s.stack.length:=by omega
  exact⟨oth,zQA m _ s oth ⟨hp0,h7⟩ h2 (by omega) (zP2 h hw (hv 1 (by omega))) (zP2 h hw (hv 0 (by omega))) hlo (by omega) (by omega)⟩
 obtain rfl|rfl|rfl|rfl|rfl|rfl|rfl:p=7∨p=8∨p=9∨p=10∨p=11∨p=12∨p=13:=by omega
 ·have h2:2≤s.stack.length:=by have:takes 7=2:=rfl;omega
  exact zOg _ h hw0 hw hl oth h2 (hv 1 (by omega)) (hv 0 (by omega)) hlo
 ·have h1:1≤s.stack.length:=by have:takes 8=1:=rfl;omega
  exact⟨oth,zOe _ h hw oth h1 (by omega) (hv 0 (by omega))⟩
 ·have h1:1≤s.stack.length:=by have:takes 9=1:=rfl;omega
  exact zOd _ h hw0 hw hl oth h1
 ·have h1:1≤s.stack.length:=by have:takes 10=1:=rfl;omega
  exact⟨oth,zOf _ h hw oth h1 (by omega) (hv 0 (by omega))⟩
 ·have h2:2≤s.stack.length:=by have:takes 11=2:=rfl;omega
  exact⟨oth,zOb _ h hw oth h2 (by omega) (hv 1 (by omega)) (hv 0 (by omega))⟩
 ·have h1:1≤s.stack.length:=by have:takes 12=1:=rfl;omega
  exact⟨oth,zMS m s oth h1 (by omega) (zP2 h hw (hv 0 (by omega))) ho⟩
 ·have h1:1≤s.stack.length:=by have:takes 13=1:=rfl;omega
  exact⟨oth,zOc _ h hw oth h1 (by omega) (hv 0 (by omega)) ho⟩
structure Bnd(s:St): Prop where
 w0:0≤s.words
 w1:s.words≤1048576
 tr:s.tries.length≤200000
 out:s.out.length≤1048576
theorem zXQ{s:St}(h:MOk con m A s)(hb:Bnd s)(oth:List Nat): ∃oth',zB8 m s (Go.Vm.step shw m s) oth oth':=by
 obtain⟨i,v,ts0,ts1,nw⟩:=h.now
 obtain⟨hl,hb0,hf0,hat⟩:=nw.len
 obtain⟨o0,o20,a0,a1,b0,b1,hgo⟩:=nw.ins
 obtain⟨hw0,hw,htr,hou⟩:=hb
 have hi:=zMl nw.at_
 have hc:=zX2 nw h.img oth
 have hlay:=h.lay
 have h4:=h.high
 have hdp:=h.deep
 have hlo:=zVy h
 have hlen:s.stack.length≤4000∧s.calls.length≤200000∧s.tries.length≤200000:=⟨h4,by omega,htr⟩
 have hv:∀k,k<s.stack.length→Val s (s.top k):=fun k hk=>hlay.stack (zEX hk)
 have hR:∀k,k<s.stack.length→RfOk s (s.top k):=fun k hk=>zP2 hlay hw (hv k hk)
 unfold Go.Vm.step
 dsimp only
 rw[hi]
 have hfl:=nw.floor
 have hhd:=nw.holds
 obtain⟨op,a,b⟩:=i
 dsimp only at *
 by_cases c0:op=0
 ·subst c0;rw[if_pos rfl];exact⟨oth,st_0 m s oth hc⟩
 rw[if_neg c0]
 by_cases c1:op=1
 ·subst c1;rw[if_pos rfl]
  have e:eff con m ⟨1,a,b⟩ v=⟨0,1,decide (a<m.pool.length),true,false⟩:=by simp[eff]
  rw[e]at hhd
  simp only[decide_eq_true_eq]at hhd
  exact st_1 hlay h.img hw0 hw hlen oth hc a0 hhd
 rw[if_neg c1]
 by_cases c2:op=2
 ·subst c2;rw[if_pos rfl]
  have e:eff con m ⟨2,a,b⟩ v=⟨0,1,decide (a<v.height),true,false⟩:=by simp[eff]
  rw[e]at hhd
  simp only[decide_eq_true_eq]at hhd
  exact⟨oth,st_2 m s oth hc h4 a0 (by omega)⟩
 rw[if_neg c2]
 by_cases c3:op=3
 ·subst c3;rw[if_pos rfl]
  have e:eff con m ⟨3,a,b⟩ v=⟨0,1,decide (v.of≥0)&&decide (a<v.has),true,false⟩:=by simp[eff]
  rw[e]at hhd
  simp only[Bool.and_eq_true,decide_eq_true_eq]at hhd
  rcases nw.here.kind with hk|⟨hk,j,f1,f2,f3,f4,f5⟩
  ·omega
  ·exact⟨oth,st_3 hlay hw oth hc h4 f1 f3 a0 (by omega)⟩
 rw[if_neg c3]
 by_cases c4:op=4
 ·subst c4;rw[if_pos rfl];exact⟨oth,st_4 m s oth hc h4⟩
 rw[if_neg c4]
 by_cases c5:op=5
 ·subst c5;rw[if_pos rfl]
  have e:eff con m ⟨5,a,b⟩ v=⟨a,0,true,true,false⟩:=by simp[eff]
  rw[e]at hfl
  change zA9 v≤v.height-a at hfl
  exact⟨oth,st_5 m s oth hc h4 a0 (by omega)⟩
 rw[if_neg c5]
 by_cases c6:op=6
 ·subst c6;rw[if_pos rfl]
  have e:eff con m ⟨6,a,b⟩ v=⟨a+1,1,true,true,false⟩:=by simp[eff]
  rw[e]at hfl
  change zA9 v≤v.height-(a+1)at hfl
  exact⟨oth,st_6 m s oth hc h4 a0 (by omega)⟩
 rw[if_neg c6]
 by_cases c7:op=7
 ·subst c7;rw[if_pos rfl]
  have e:eff con m ⟨7,a,b⟩ v=⟨2,1,true,true,false⟩:=by simp[eff]
  rw[e]at hfl
  change zA9 v≤v.height-2 at hfl
  exact⟨oth,st_7 hlay hw oth hc (by omega) h4 hdp ⟨hb0,by omega⟩ (hv 1 (by omega))⟩
 rw[if_neg c7]
 by_cases c8:op=8
 ·subst c8;rw[if_pos rfl]
  have e:eff con m ⟨8,a,b⟩ v=⟨2,0,decide (v.of≥0)&&v.tries.isEmpty,false,false⟩:=by simp[eff]
  rw[e]at hfl
  change zA9 v≤v.height-2 at hfl
  exact⟨oth,st_8 hlay hw oth hc (by omega) h4 hdp ⟨hb0,by omega⟩ (hv 1 (by omega))⟩
 rw[if_neg c8]
 by_cases c9:op=9
 ·subst c9;rw[if_pos rfl]
  have e:eff con m ⟨9,a,b⟩ v=⟨1,0,decide (v.of≥0)&&v.tries.isEmpty,false,false⟩:=by simp[eff]
  rw[e]at hfl hhd
  change zA9 v≤v.height-1 at hfl
  simp only[Bool.and_eq_true,decide_eq_true_eq]at hhd
  obtain⟨cs,c',hcs,_⟩:=nw.here.back hhd.1
  exact⟨oth,st_9 m s oth hc h4 (by omega) (c:=c') (by rw[hcs];simp) (by omega) ⟨hb0,by omega⟩⟩
 rw[if_neg c9]
 by_cases c10:op=10
 ·subst c10;rw[if_pos rfl]
  have e:eff con m ⟨10,a,b⟩ v=⟨b,1,zIE con m a&&decide (b≤8),true,false⟩:=by simp[eff]
  rw[e]at hfl
  change zA9 v≤v.height-b at hfl
  exact zY2 hlay hw0 hw hlen oth hc ⟨a0,a1⟩ b0 (by omega)
 rw[if_neg c10]
 by_cases c18:op=18
 ·subst c18;rw[if_pos rfl]
  have e:eff con m ⟨18,a,b⟩ v=⟨b,1,true,true,false⟩:=by simp[eff]
  rw[e]at hfl
  change zA9 v≤v.height-b at hfl
  exact zYv hlay hw0 hw hlen oth hc ⟨a0,a1⟩ b0 (by omega)
 rw[if_neg c18]
 by_cases c12:op=12
 ·subst c12;rw[if_pos rfl]
  have e:eff con m ⟨12,a,b⟩ v=⟨takes a,1,decide (a≤13),true,false⟩:=by simp[eff]
  rw[e]at hhd hfl
  simp only[decide_eq_true_eq]at hhd
  change zA9 v≤v.height-takes a at hfl
  obtain⟨oth',hP⟩:=zXq (s:=fwd s) (zGE hlay) hw0 hw hlen hou oth hlo a0 hhd (by show takes a≤(s.stack.length:Int);omega)
  exact⟨oth',zVN m (rawS s oth) _ hc hP⟩
 rw[if_neg c12]
 by_cases c17:op=17
 ·subst c17;rw[if_pos rfl];exact⟨oth,zYw m s oth hc (by omega)⟩
 rw[if_neg c17]
 by_cases c14:op=14
 ·subst c14;rw[if_pos rfl]
  have e:eff con m ⟨14,a,b⟩ v=⟨0,0, !v.tries.isEmpty,true,false⟩:=by simp[eff]
  rw[e]at hhd
  have hne:1≤v.tries.length:=by
   cases ht:v.tries with
   |nil=>rw[ht]at hhd;cases hhd
   |cons _ _=>simp
  have:=nw.here.seg.1
  have:=nw.here.app
  exact⟨oth,zYz m s oth hc (by rw[this,List.length_append];omega) (by omega)⟩
 rw[if_neg c14]
 by_cases c15:op=15
 ·subst c15;rw[if_pos rfl];exact⟨oth,zYy m s oth hc⟩
 rw[if_neg c15]
 by_cases c11:op=11
 ·subst c11;rw[if_pos rfl]
  have e:eff con m ⟨11,a,b⟩ v=⟨1,1,decide (a≤7),true,false⟩:=by simp[eff]
  rw[e]at hfl
  change zA9 v≤v.height-1 at hfl
  exact⟨oth,zY1 hlay hw oth hc a0 (by omega) h4 (hv 0 (by omega))⟩
 rw[if_neg c11]
 by_cases c19:op=19
 ·subst c19;rw[if_pos rfl]
  have e:eff con m ⟨19,a,b⟩ v=⟨0,0,decide (v.height≥1)&&zIE con m b,true,true⟩:=by simp[eff]
  rw[e]at hhd
  simp only[Bool.and_eq_true,decide_eq_true_eq]at hhd
  exact⟨oth,zYu hlay hw oth hc (by omega) h4 (hv 0 (by omega))⟩
 rw[if_neg c19]
 have hone:1≤s.stack.length:=by
  by_cases c13:op=13
  ·have e:eff con m ⟨op,a,b⟩ v=⟨1,0,true,false,false⟩:=by simp[eff,c13]
   rw[e]at hfl
   change zA9 v≤v.height-1 at hfl
   omega
  by_cases c16:op=16
  ·have e:eff con m ⟨op,a,b⟩ v=⟨1,0,true,true,true⟩:=by simp[eff,c16]
   rw[e]at hfl
   change zA9 v≤v.height-1 at hfl
   omega
  have e:eff con m ⟨op,a,b⟩ v=⟨0,0,decide (v.height≥1)&&zKZ m b,true,true⟩:=by
   unfold eff
   simp only[c0,c1,c2,c3,c4,c5,c6,c7,c8,c9,c10,c11,c12,c13,c14,c15,c16,c17,c18,c19,if_false]
  rw[e]at hhd
  simp only[Bool.and_eq_true,decide_eq_true_eq]at hhd
  omega
 have hR0:=hR 0 (by omega)
 have et:(s.goto (s.c.at_+1)).top 0=s.top 0:=rfl
 rw[et]
 have hop:op=13∨op=16∨op=20:=by omega
 cases hr:s.top 0 with
 |b j =>
  dsimp only
  rcases hop with rfl|rfl|rfl
  ·exact⟨oth,zXc m s oth hc h4 hone hr hR0⟩
  ·exact⟨oth,zXb m s oth hc h4 hone hr hR0⟩
  ·exact⟨oth,zXa m s oth hc h4 hone hr hR0⟩
 |n x =>
  dsimp only
  rcases hop with rfl|rfl|rfl
  ·rw[if_pos rfl];exact⟨oth,zY0 m s oth hc h4 hone hr hR0 hlo (by omega) (by omega)⟩
  ·rw[if_neg (by decide),if_pos rfl];exact⟨oth,zYx m s oth hc h4 hone hr hR0⟩
  ·rw[if_neg (by decide),if_neg (by decide)]
   have e:eff con m ⟨20,a,b⟩ v=⟨0,0,decide (v.height≥1)&&zKZ m b,true,true⟩:=by simp[eff]
   rw[e]at hhd
   simp only[Bool.and_eq_true,decide_eq_true_eq]at hhd
   exact⟨oth,zYt m s oth hc h4 hone hr hR0 b0 (zS7 hhd.2 b0)⟩
end Go.Proofs.YtcagoomibpcdlaaGreatDoor
