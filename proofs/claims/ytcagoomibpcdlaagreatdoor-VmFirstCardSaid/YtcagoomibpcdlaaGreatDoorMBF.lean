/- Parts of the proof. -/
import Derived.Test.YtcagoomibpcdlaaGreatDoorMBC
import Derived.Test.YtcagoomibpcdlaaGreatDoorMBD
import Derived.Test.YtcagoomibpcdlaaGreatDoorMBE
set_option maxHeartbeats 16000000
namespace Go.Proofs.YtcagoomibpcdlaaGreatDoor
open _root_.Go.Proofs.Tryz
open Go.Sx Go.Vm
attribute [local irreducible] zAN Program.underlying Ylds zA9 alex zB3 zBf awp zAi zCC zCB zAU zBl zAz zBq zBj zBB zBr zB2 zB8 zBi zBd zBg
theorem zX4(l:List RTy)(t:RTy): l.map enTy++[enTy t]=(l++[t]).map enTy:=by rw[qAk];rfl
theorem zV6(m:Img)(r:Raw){a b:Int}(hc:InsAt m r ⟨17,a,b⟩)(hl:r.trs.length<=1048576): zAU prog 22 [.ptr 0 0] (MX m r) .top (MX m { nxt r with trs:=r.trs++[⟨{ (nxt r).c with at_:=a },(r.stk.length:Int),(r.cls.length:Int)⟩] }):=by
 obtain⟨hpos,hat0,hbig⟩:=hc
 have hbd:=(qAA.1 hat0).1
 have hat:=zBz (f:=enIn) hat0
 have hl':(nxt r).trs.length<=1048576:=hl
 refine zAx func22 rfl ntmps22 results22 rfl ?_
 intro wb St0 X fx
 repeat' first|(refine zBR (id:=39) [.y (.ptr 0 0),.y (.ptr 0 0),.y (.ptr 0 (0+4)),.y (.d (.agg [i64 (nxt r).c.at_,i64 (nxt r).c.base,w64 (nxt r).c.fn])),.y (.ptr 0 0),.y (.ptr 0 0),.y (.ptr 0 (0+3)),.y (.buf 5 (nxt r).stk.length),.y (.d (i64 ((nxt r).stk.length:Int))),.y (.ptr 0 0),.y (.ptr 0 0),.y (.ptr 0 (0+7)),.y (.buf 6 (nxt r).cls.length),.y (.d (i64 ((nxt r).cls.length:Int))),.y (.d (.agg [i64 (nxt r).c.at_,i64 (nxt r).c.base,w64 (nxt r).c.fn,i64 ((nxt r).stk.length:Int),i64 ((nxt r).cls.length:Int)])),.mk ⟨7,_,114,_⟩ none] (by kernel_rfl) (by kernel_rfl) (.inr (by kernel_rfl)) ⟨⟨rfl,zAG rfl⟩,rfl,⟨rfl,zAK rfl⟩,rfl,⟨rfl,zAC rfl zAZ⟩,rfl,⟨rfl,zA4 rfl zCO rfl rfl rfl⟩,rfl,⟨rfl,zAG rfl⟩,rfl,⟨rfl,zAK rfl⟩,rfl,⟨rfl,zAC rfl zCn⟩,rfl,⟨rfl,zAE rfl zBC rfl rfl⟩,rfl,⟨rfl,zA5 rfl zCq⟩,rfl,⟨rfl,zAG rfl⟩,rfl,⟨rfl,zAK rfl⟩,rfl,⟨rfl,zAC rfl zDf⟩,rfl,⟨rfl,zAE rfl zB7 rfl rfl⟩,rfl,⟨rfl,zA5 rfl zGl⟩,rfl,⟨rfl,zBY zSm zIa (PD_d rfl rfl (PD_d rfl rfl (PD_d rfl rfl zCf))) rfl⟩,rfl,⟨rfl,rfl,rfl,zIa,by kernel_rfl,rfl⟩,rfl,trivial⟩ ?_)|(refine zJh (rid:=41) [.ptr 0 0,.ptr 0 0,.ptr 0 0,.ptr 0 (0+8),.buf 7 (nxt r).trs.length,.d (.agg [i64 a,i64 (nxt r).c.base,w64 (nxt r).c.fn,i64 ((nxt r).stk.length:Int),i64 ((nxt r).cls.length:Int)]),.d (.slice [.agg [i64 a,i64 (nxt r).c.base,w64 (nxt r).c.fn,i64 ((nxt r).stk.length:Int),i64 ((nxt r).cls.length:Int)]]),.top] 7 7 (by kernel_rfl) (by kernel_rfl) rfl rfl rfl (.inr (by kernel_rfl)) ⟨.inr ⟨⟨rfl,zAG rfl⟩,rfl,rfl,.inr ⟨rfl,rfl,zAG rfl⟩⟩,⟨.inr ⟨⟨rfl,zAG rfl⟩,rfl,rfl,.inl (by kernel_rfl)⟩,⟨.inr ⟨⟨rfl,zAK rfl⟩,rfl,rfl,.inl (by kernel_rfl)⟩,⟨.inr ⟨⟨rfl,zAC rfl zC6⟩,rfl,rfl,.inl (by kernel_rfl)⟩,⟨.inr ⟨⟨rfl,zAE rfl zB4 rfl rfl⟩,rfl,rfl,.inl (by kernel_rfl)⟩,⟨.inr ⟨⟨rfl,zA4 rfl zCR rfl rfl rfl⟩,rfl,rfl,.inl (by kernel_rfl)⟩,⟨.inr ⟨⟨rfl,zCI zLM zD9 zSd rfl rfl (zAY rfl zAM) rfl⟩,rfl,rfl,.inl (by kernel_rfl)⟩,⟨.inl rfl,trivial⟩⟩⟩⟩⟩⟩⟩⟩ rfl rfl rfl (qAC _).symm rfl zLM zD9 zSj zSq rfl rfl (zEA rfl) (by simp only[qAS,qAv];omega) ?_)|(refine zBR (id:=0) [.y (.ptr 0 0),.y (.ptr 0 0),.y (.ptr 0 (0+0)),.y (.ptr 0 (0+0+1)),.y (.d (.slice (m.code.map enIn))),.y (.ptr 0 0),.y (.ptr 0 0),.y (.ptr 0 (0+4)),.y (.ptr 0 (0+4+0)),.y (.d (i64 r.c.at_)),.y (.rptr [i64 17,i64 a,i64 b]),.y (.d (.agg (List.take 3 [i64 17,i64 a,i64 b]))),.mk ⟨2,_,46,_⟩ none] (by kernel_rfl) (by kernel_rfl) (.inr (by kernel_rfl)) ⟨⟨rfl,zAG rfl⟩,rfl,⟨rfl,zAK rfl⟩,rfl,⟨rfl,zAC rfl zA8⟩,rfl,⟨rfl,zAC rfl zBD⟩,rfl,⟨rfl,zAE rfl zBo rfl rfl⟩,rfl,⟨rfl,zAG rfl⟩,rfl,⟨rfl,zAK rfl⟩,rfl,⟨rfl,zAC rfl zAZ⟩,rfl,⟨rfl,zAC rfl zAe⟩,rfl,⟨rfl,zAE rfl zAP rfl rfl⟩,rfl,⟨rfl,zCU rfl rfl zBh hpos hat rfl (by decide)⟩,rfl,⟨rfl,zBH rfl zA3 rfl⟩,rfl,⟨rfl,rfl,rfl,zBw,by kernel_rfl,rfl⟩,rfl,trivial⟩ ?_)|(refine zBN (id:=2) (s:=[(0,.ptr 0 0),(2,.ptr 9 0)]) (h:=MA fx m (nxt r)++[inB 17 a b]) (zAT (Le_all rfl) (zCV rfl rfl rfl) rfl rfl) ?_)|apply en_n|apply zAH|apply zAA|apply zAD|apply w0|(refine zBv (by kernel_rfl) ?_;apply zAh;exact rfl;exact rfl;exact rfl;(with_reducible exact zA3);exact rfl;exact rfl;exact rfl;exact rfl)|exact zAk rfl rfl|exact zAm rfl rfl|exact zAK rfl|(refine zBv (by kernel_rfl) ?_;apply zAh;exact rfl;exact rfl;exact rfl;(first|with_reducible exact zBC|with_reducible exact zCO|with_reducible exact zB7|with_reducible exact zB4|with_reducible exact zCR|with_reducible exact zBO|with_reducible exact zAP);exact rfl;exact rfl;exact rfl;exact rfl)|(apply zAE;exact rfl;(first|with_reducible exact zAd|with_reducible exact vq_tc_23);exact rfl;exact rfl)|apply ay (hd:=rfl)|exact zAB rfl|refine zBE rfl rfl ?_|exact zAG rfl|(apply zAC;exact rfl;(with_reducible first|exact zBA|exact zAp|exact zAe|exact zAZ|exact zC6|exact zFl))|exact zAE rfl zAP rfl rfl|(refine w0' ?_)|refine zAh rfl rfl rfl zAP rfl rfl rfl rfl ?_|refine zAI rfl ?_|refine zAJ rfl ?_|apply zAL|apply eb_n
 all_goals first|omega|skip
 all_goals exact zCj ⟨rfl,zAT Le_nil (zEi rfl rfl rfl rfl qAE rfl rfl rfl rfl rfl rfl rfl (zBU rfl) (zBU rfl) (zBU (congrArg (Ob.buf true _ 5) (zX4 r.trs _).symm)) rfl) rfl rfl⟩
end Go.Proofs.YtcagoomibpcdlaaGreatDoor
namespace Go.Proofs.YtcagoomibpcdlaaGreatDoor
open _root_.Go.Proofs.Tryz
open Go.Sx Go.Vm
abbrev zCA(m:Img)(s s':St)(oth oth':List Nat): Prop:=zAU prog 22 [.ptr 0 0] (MX m (rawS s oth)) .top (MX m (rawS s' oth'))
abbrev fwd(s:St): St:=s.goto (s.c.at_+1)
theorem zHm{s:St}(oth:List Nat)(hl:s.stack.length<=4000): (rawS (fwd s) oth).stk.length<=1048576:=by rw[zBM];show s.stack.length<=_;omega
theorem zRN{s:St}(m:Img)(oth:List Nat)(hl:s.stack.length<=4000)(h:(fwd s).high 1=true): zAU prog 39 [.ptr 0 0,.d (i64 1)] (MX m (rawS (fwd s) oth)) (.d (bl true)) (MX m (rawS ((fwd s).stop 6) oth)):=by
 have h1:(((rawS (fwd s) oth).stk.length:Nat):Int)+1>4000:=by rw[zBM];exact of_decide_eq_true h
 exact zIp m (rawS (fwd s) oth) (k:=1) (zHm oth hl) (by omega) h1
theorem zRO{s:St}(m:Img)(oth:List Nat)(hl:s.stack.length<=4000)(h:(fwd s).high 1=false): zAz prog 39 [.ptr 0 0,.d (i64 1)] (MX m (rawS (fwd s) oth)) (bl false):=by
 have h1:¬(((rawS (fwd s) oth).stk.length:Nat):Int)+1>4000:=by rw[zBM];exact of_decide_eq_false h
 exact zIA m (rawS (fwd s) oth) (k:=1) (zHm oth hl) (by omega) h1
theorem zKa{s:St}(m:Img)(oth:List Nat)(hl:s.stack.length<=4000){k:Nat}(hk:k<s.stack.length): zAz prog 24 [.ptr 0 0,.d (i64 (k:Int))] (MX m (rawS (fwd s) oth)) (w64 (wdN s.all s.ly (s.top k))) :=
 zBt m (rawS (fwd s) oth) (k:=k) (by rw[zBM];exact hk) (zFB (fwd s) oth hk) (zHm oth hl)
theorem zWR{s:St}(m:Img)(oth:List Nat)(hl:s.stack.length<=4000)(r:Rf): zAU prog 40 [.ptr 0 0,.d (w64 (wdN s.all s.ly r))] (MX m (rawS (fwd s) oth)) .top (MX m (rawS ((fwd s).instead 0 r) oth)):=by
 rw[zNt]
 exact zHD m (rawS (fwd s) oth) (zHm oth hl)
theorem st_0(m:Img)(s:St)(oth:List Nat){a b:Int}(hc:InsAt m (rawS s oth) ⟨0,a,b⟩): zCA m s ((fwd s).stop 1) oth oth :=
 zYO m (rawS s oth) _ hc (zEq m (rawS (fwd s) oth) 1)
theorem st_2(m:Img)(s:St)(oth:List Nat){a b:Int}(hc:InsAt m (rawS s oth) ⟨2,a,b⟩)(hl:s.stack.length<=4000)(ha:0<=a)(hk:a<s.stack.length): zCA m s ((fwd s).push ((fwd s).top a.toNat)) oth oth:=by
 unfold zCA St.push
 have e:a=(a.toNat:Int):=(qAw ha).symm
 split
 ·rename_i h;exact zV2 m (rawS s oth) _ hc (zRN m oth hl h)
 ·rename_i h
  have hT:=zKa (s:=s) m oth hl (k:=a.toNat) (by omega)
  rw[<-e]at hT
  exact zYN m (rawS s oth) _ hc (zRO m oth hl (by simpa using h)) hT (zWR m oth hl _)
theorem st_4(m:Img)(s:St)(oth:List Nat){a b:Int}(hc:InsAt m (rawS s oth) ⟨4,a,b⟩)(hl:s.stack.length<=4000): zCA m s ((fwd s).push (fwd s).c.fun_) oth oth:=by
 unfold zCA St.push
 split
 ·rename_i h;exact zV0 m (rawS s oth) _ hc (zRN m oth hl h)
 ·rename_i h
  exact zYL m (rawS s oth) _ hc (zRO m oth hl (by simpa using h)) (zWR m oth hl _)
theorem st_5(m:Img)(s:St)(oth:List Nat){a b:Int}(hc:InsAt m (rawS s oth) ⟨5,a,b⟩)(hl:s.stack.length<=4000)(ha:0<=a)(hk:a<=s.stack.length): zCA m s { fwd s with stack:=(fwd s).stack.take ((fwd s).stack.length-a.toNat) } oth oth:=by
 unfold zCA
 have e:a=(a.toNat:Int):=(qAw ha).symm
 have hR:=zIe m (rawS (fwd s) oth) (n:=a.toNat) (zHm oth hl) (by rw[zBM];show _<=s.stack.length;omega)
 rw[<-e]at hR
 rw[zNs]
 exact zYK m (rawS s oth) _ hc hR
theorem zZj(m:Img)(s:St)(oth:List Nat){a b:Int}(hc:InsAt m (rawS s oth) ⟨15,a,b⟩): zCA m s ((fwd s).goto a) oth oth:=zV8 m (rawS s oth) hc
theorem zZh(m:Img)(s:St)(oth:List Nat){a b:Int}(hc:InsAt m (rawS s oth) ⟨17,a,b⟩)(h:s.tries.length<=1048576): zCA m s { fwd s with tries:=(fwd s).tries++[⟨{ (fwd s).c with at_:=a },(fwd s).stack.length,(fwd s).calls.length⟩] } oth oth:=by
 unfold zCA
 rw[zWN]
 exact zV6 m (rawS s oth) hc (by rw[zJB];exact h)
theorem zZk(m:Img)(s:St)(oth:List Nat){a b:Int}(hc:InsAt m (rawS s oth) ⟨14,a,b⟩)(h1:1<=s.tries.length)(h:s.tries.length<=1048576): zCA m s { fwd s with tries:=(fwd s).tries.dropLast } oth oth:=by
 unfold zCA
 rw[zWO]
 exact zV9 m (rawS s oth) hc (by rw[zJB];exact h1) (by rw[zJB];exact h)
def zIR(s:St): Prop:=∀t,s.tries.getLast? = some t->(0<=t.height/\t.height<=s.stack.length)/\(0<=t.calls/\t.calls<=s.calls.length)
theorem zKl(m:Img)(s:St)(oth:List Nat)(n:Int)(ht:zIR s)(hl:s.stack.length<=1048576)(hl2:s.calls.length<=1048576)(hl3:s.tries.length<=1048576):
  zAU prog 50 [.ptr 0 0,.d (i64 n)] (MX m (rawS s oth)) .top (MX m (rawS (s.raise n) oth)):=by
 cases h:s.tries.getLast? with
 |none =>
  have h0:s.tries=[]:=qBb.1 h
  rw[zLc s n oth h0]
  exact zTV m (rawS s oth) n (by show s.tries.map _=[];rw[h0];rfl)
 |some t =>
  obtain⟨h1,h2⟩:=ht t h
  rw[zQf s n oth h]
  exact zQh m (rawS s oth) n (zTS s oth h) (by rw[zBM];exact h1) (by rw[zHC];exact h2) (by rw[zBM];exact hl) (by rw[zHC];exact hl2) (by rw[zJB];exact hl3)
def RfOk(s:St): Rf->Prop
 | .n v=>Wn v=v
 | .b i=>wdN s.all s.ly (.b i)<18446744073709551616
theorem st_6(m:Img)(s:St)(oth:List Nat){a b:Int}(hc:InsAt m (rawS s oth) ⟨6,a,b⟩)(hl:s.stack.length<=4000)(ha:0<=a)(hk:a<s.stack.length): zCA m s ((fwd s).instead (a.toNat+1) ((fwd s).top 0)) oth oth:=by
 unfold zCA
 have e:a+1=((a.toNat+1:Nat):Int):=by omega
 have hT:=zKa (s:=s) m oth hl (k:=0) (by omega)
 have hB:=zE4 m (rawS (fwd s) oth) (n:=a.toNat+1) (w:=wdN s.all s.ly (s.top 0)) (zHm oth hl) (by rw[zBM];show _<=s.stack.length;omega)
 rw[<-e]at hB
 rw[zEK]
 exact zYJ m (rawS s oth) _ hc (by omega) hT hB
theorem zYR(m:Img)(s:St)(oth:List Nat){a b:Int}{i:Nat}(hc:InsAt m (rawS s oth) ⟨13,a,b⟩)(hl:s.stack.length<=4000)(hk:1<=s.stack.length)(hr:s.top 0=.b i)(ho:RfOk s (s.top 0)): zCA m s ((fwd s).stop 4) oth oth:=by
 rw[hr]at ho
 have hT:=zKa (s:=s) m oth hl (k:=0) (by omega)
 rw[hr]at hT
 exact zS9 m (rawS s oth) _ hc hT (zFo m (rawS (fwd s) oth) (zHS s.all s.ly ho))
theorem zZl(m:Img)(s:St)(oth:List Nat){a b x:Int}(hc:InsAt m (rawS s oth) ⟨13,a,b⟩)(hl:s.stack.length<=4000)(hk:1<=s.stack.length)(hr:s.top 0=.n x)(ho:RfOk s (s.top 0))(ht:zIR s)(hl2:s.calls.length<=1048576)(hl3:s.tries.length<=1048576): zCA m s ((fwd s).raise x) oth oth:=by
 rw[hr]at ho
 have hT:=zKa (s:=s) m oth hl (k:=0) (by omega)
 rw[hr]at hT
 exact zWA m (rawS s oth) _ hc hT (zEL m (rawS (fwd s) oth) (zGe s.all s.ly ho)) (zKl m (fwd s) oth x ht (by show s.stack.length<=_;omega) hl2 hl3)
theorem zYQ(m:Img)(s:St)(oth:List Nat){a b:Int}{i:Nat}(hc:InsAt m (rawS s oth) ⟨16,a,b⟩)(hl:s.stack.length<=4000)(hk:1<=s.stack.length)(hr:s.top 0=.b i)(ho:RfOk s (s.top 0)): zCA m s ((fwd s).stop 4) oth oth:=by
 rw[hr]at ho
 have hT:=zKa (s:=s) m oth hl (k:=0) (by omega)
 rw[hr]at hT
 exact zS8 m (rawS s oth) _ hc hT (zFo m (rawS (fwd s) oth) (zHS s.all s.ly ho))
theorem zRV(m:Img)(s:St)(oth:List Nat)(a:Int)(p:Prop)[Decidable p]: zAU prog 51 [.ptr 0 0,.d (i64 a),.d (bl (decide p))] (MX m (rawS s oth)) .top (MX m (rawS (if p then s.goto a else s) oth)):=by
 by_cases h:p
 ·rw[decide_eq_true h,if_pos h];exact zUF m (rawS s oth) a
 ·rw[decide_eq_false h,if_neg h];exact zXB m (rawS s oth) a
theorem zZi(m:Img)(s:St)(oth:List Nat){a b x:Int}(hc:InsAt m (rawS s oth) ⟨16,a,b⟩)(hl:s.stack.length<=4000)(hk:1<=s.stack.length)(hr:s.top 0=.n x)(ho:RfOk s (s.top 0)):
  zCA m s (if x=0 then({ fwd s with stack:=(fwd s).stack.take ((fwd s).stack.length-1) }:St).goto a else { fwd s with stack:=(fwd s).stack.take ((fwd s).stack.length-1) }) oth oth:=by
 rw[hr]at ho
 have hT:=zKa (s:=s) m oth hl (k:=0) (by omega)
 rw[hr]at hT
 have hK:=zIe m (rawS (fwd s) oth) (n:=1) (zHm oth hl) (by rw[zBM];exact hk)
 rw[<-zNs]at hK
 exact zV7 m (rawS s oth) _ hc hT (zEL m (rawS (fwd s) oth) (zGe s.all s.ly ho)) hK (zRV m _ oth a (x=0))
theorem zYP(m:Img)(s:St)(oth:List Nat){a b:Int}{i:Nat}(hc:InsAt m (rawS s oth) ⟨20,a,b⟩)(hl:s.stack.length<=4000)(hk:1<=s.stack.length)(hr:s.top 0=.b i)(ho:RfOk s (s.top 0)): zCA m s ((fwd s).stop 4) oth oth:=by
 rw[hr]at ho
 have hT:=zKa (s:=s) m oth hl (k:=0) (by omega)
 rw[hr]at hT
 exact zS6 m (rawS s oth) _ hc hT (zFo m (rawS (fwd s) oth) (zHS s.all s.ly ho))
theorem zZe(m:Img)(s:St)(oth:List Nat){a b x:Int}(hc:InsAt m (rawS s oth) ⟨20,a,b⟩)(hl:s.stack.length<=4000)(hk:1<=s.stack.length)(hr:s.top 0=.n x)(ho:RfOk s (s.top 0))(hb:0<=b)(hp:b<m.pool.length):
  zCA m s (if x≠(m.pool.getD b.toNat default).num then(fwd s).goto a else fwd s) oth oth:=by
 rw[hr]at ho
 have hT:=zKa (s:=s) m oth hl (k:=0) (by omega)
 rw[hr]at hT
 have hlt:b.toNat<m.pool.length:=by omega
 have hg:m.pool[b.toNat]?=some (m.pool.getD b.toNat default):=by rw[qAD,qAB hlt];rfl
 exact zV3 m (rawS s oth) _ hc hT (zEL m (rawS (fwd s) oth) (zGe s.all s.ly ho)) hb hg (zRV m (fwd s) oth a (x≠(m.pool.getD b.toNat default).num))
theorem st_9(m:Img)(s:St)(oth:List Nat){a b:Int}{c:Cl}(hc:InsAt m (rawS s oth) ⟨9,a,b⟩)(hl:s.stack.length<=4000)(hk:1<=s.stack.length)(hcl:s.calls.getLast? = some c)(hl2:s.calls.length<=1048576)(hb:0<=s.c.base/\s.c.base<=s.stack.length):
  zCA m s { fwd s with stack:=(fwd s).stack.take (fwd s).c.base.toNat++[(fwd s).top 0],c:=((fwd s).calls.getLast?).getD default,calls:=(fwd s).calls.dropLast } oth oth:=by
 unfold zCA
 rw[zTU (fwd s) oth hcl]
 have hw:(rawS (fwd s) oth).stk.getLast? = some (wdN s.all s.ly (s.top 0)):=by
  have:=zFB (fwd s) oth (k:=0) (by exact hk)
  rw[Nat.sub_zero,<-qBc]at this
  exact this
 have hg:(rawS (fwd s) oth).cls.getLast? = some (rcl s.all s.ly c):=by
  show (s.calls.map (rcl s.all s.ly)).getLast? = _
  rw[List.getLast?_map,hcl];rfl
 exact zYG m (rawS s oth) _ hc (zUV m (rawS (fwd s) oth) hg hw (by rw[zBM];exact hb) (zHm oth hl) (by rw[zHC];exact hl2))
theorem Wn_W(n:Int): Wn (W n)=Wn n:=by unfold Wn W;omega
theorem W_of{n:Int}(h:Wn n=n): W n=n:=by unfold Wn at h;unfold W;omega
theorem nW_W(n:Int): nW (W n)=nW n:=by unfold nW numR;rw[Wn_W]
theorem zKZ{s:St}(oth:List Nat)(h2:2<=s.stack.length)(hl:s.stack.length<=1048576): Tops (rawS s oth) (wdN s.all s.ly (s.top 1)) (wdN s.all s.ly (s.top 0)) :=
 ⟨by rw[zBM];exact h2,zFB s oth (by omega),zFB s oth (by omega),by rw[zBM];exact hl⟩
theorem zHG(s:St)(oth:List Nat)(x:Int): ({ rawS s oth with stk:=(rawS s oth).stk.take ((rawS s oth).stk.length-2)++[nW x] }:Raw)=rawS (s.numI 2 x) oth:=(zIk s 2 x oth).symm
theorem zYq(m:Img)(s s':St)(oth:List Nat){f:FuncId}{x y:Int}(hb:zAN prog f=true)(h2:2<=s.stack.length)(hl:s.stack.length<=1048576)(h1:s.top 1=.n x)(h0:s.top 0=.n y)(o1:RfOk s (s.top 1))(o0:RfOk s (s.top 0))
  (hF:zAU prog f [.d (i64 x),.d (i64 y),.ptr 9 0] (MXb m (rawS s oth)) .top (MXb m (rawS s' oth))):zAU prog 79 [.ptr 0 0,.clo f [9]] (MXb m (rawS s oth)) .top (MXb m (rawS s' oth)):=by
 have ht:=zKZ oth h2 hl
 rw[h1]at ht o1;rw[h0]at ht o0
 exact ints_ok m (rawS s oth) _ hb ht (zGe s.all s.ly o1) (zGe s.all s.ly o0) hF
theorem zWu(m:Img)(s:St)(oth:List Nat){f:FuncId}{i:Nat}(h2:2<=s.stack.length)(hl:s.stack.length<=1048576)(h1:s.top 1=.b i)(o1:RfOk s (s.top 1)): zAU prog 79 [.ptr 0 0,.clo f [9]] (MXb m (rawS s oth)) .top (MXb m (rawS (s.stop 4) oth)):=by
 have ht:=zKZ oth h2 hl
 rw[h1]at ht o1
 exact zT2 m (rawS s oth) ht (zHS s.all s.ly o1)
theorem zWv(m:Img)(s:St)(oth:List Nat){f:FuncId}{x:Int}{i:Nat}(h2:2<=s.stack.length)(hl:s.stack.length<=1048576)(h1:s.top 1=.n x)(h0:s.top 0=.b i)(o1:RfOk s (s.top 1))(o0:RfOk s (s.top 0)): zAU prog 79 [.ptr 0 0,.clo f [9]] (MXb m (rawS s oth)) .top (MXb m (rawS (s.stop 4) oth)):=by
 have ht:=zKZ oth h2 hl
 rw[h1]at ht o1;rw[h0]at ht o0
 exact zT3 m (rawS s oth) ht (zGe s.all s.ly o1) (zHS s.all s.ly o0)
theorem zaF(m:Img)(s:St)(oth:List Nat)(x y:Int)(h2:2<=s.stack.length)(hl:s.stack.length<=1048576): zAU prog 80 [.d (i64 x),.d (i64 y),.ptr 9 0] (MXb m (rawS s oth)) .top (MXb m (rawS (s.ints 0 x y) oth)):=by
 have h:=pAdd m (rawS s oth) x y (by rw[zBM];exact hl) (by rw[zBM];exact h2)
 rw[nW_W,zHG]at h
 exact h
theorem zZc(m:Img)(s:St)(oth:List Nat)(x y:Int)(h2:2<=s.stack.length)(hl:s.stack.length<=1048576): zAU prog 83 [.d (i64 x),.d (i64 y),.ptr 9 0] (MXb m (rawS s oth)) .top (MXb m (rawS (s.ints 1 x y) oth)):=by
 have h:=pSub m (rawS s oth) x y (by rw[zBM];exact hl) (by rw[zBM];exact h2)
 rw[nW_W,zHG]at h
 exact h
theorem zZt(m:Img)(s:St)(oth:List Nat)(x y:Int)(h2:2<=s.stack.length)(hl:s.stack.length<=1048576): zAU prog 85 [.d (i64 x),.d (i64 y),.ptr 9 0] (MXb m (rawS s oth)) .top (MXb m (rawS (s.ints 2 x y) oth)):=by
 have h:=pMul m (rawS s oth) x y (by rw[zBM];exact hl) (by rw[zBM];exact h2)
 rw[nW_W,zHG]at h
 exact h
theorem eq_m(m:Img)(s:St)(oth:List Nat)(x y:Int)(h2:2<=s.stack.length)(hl:s.stack.length<=1048576): zAU prog 92 [.d (i64 x),.d (i64 y),.ptr 9 0] (MXb m (rawS s oth)) .top (MXb m (rawS (s.ints 5 x y) oth)):=by
 have h:=pEq m (rawS s oth) x y (by rw[zBM];exact hl) (by rw[zBM];exact h2)
 rw[zHG]at h
 rw[show s.ints 5 x y=s.numI 2 (if decide (x=y)=true then 1 else 0) by simp[St.ints]]
 exact h
theorem zYo(m:Img)(s:St)(oth:List Nat)(x y:Int)(h2:2<=s.stack.length)(hl:s.stack.length<=1048576): zAU prog 94 [.d (i64 x),.d (i64 y),.ptr 9 0] (MXb m (rawS s oth)) .top (MXb m (rawS (s.ints 6 x y) oth)):=by
 have h:=zZr m (rawS s oth) x y (by rw[zBM];exact hl) (by rw[zBM];exact h2)
 rw[zHG]at h
 rw[show s.ints 6 x y=s.numI 2 (if decide (x<y)=true then 1 else 0) by simp[St.ints]]
 exact h
theorem zaA(m:Img)(s:St)(oth:List Nat){x y:Int}(hx:Wn x=x)(hy:Wn y=y)(h2:2<=s.stack.length)(hl:s.stack.length<=1048576)(ht:zIR s)(hl2:s.calls.length<=1048576)(hl3:s.tries.length<=1048576): zAU prog 87 [.d (i64 x),.d (i64 y),.ptr 9 0] (MXb m (rawS s oth)) .top (MXb m (rawS (s.ints 3 x y) oth)):=by
 have ex:=W_of hx
 have ey:=W_of hy
 refine pDiv m (rawS s oth) _ x y ?_
 by_cases h0:y=0
 ·rw[show s.ints 3 x y=s.raise (-2) by simp[St.ints,h0],zE0 (by rw[ey];exact h0)]
  exact zNb m (rawS s oth) _ _ (by decide) (zKl m s oth (-2) ht hl hl2 hl3)
 ·have h:=zNa m (rawS s oth) (divV x y) (by rw[zBM];exact hl) (by rw[zBM];exact h2)
  rw[show s.ints 3 x y=s.numI 2 (x.tdiv y) by simp[St.ints,h0],zE1 (by rw[ey];exact h0)]
  have e:nW (divV x y)=nW (x.tdiv y):=by rw[divV,if_neg (by rw[ey];exact h0),ex,ey,nW_W]
  rw[e,zHG]at h
  exact h
theorem zZu(m:Img)(s:St)(oth:List Nat){x y:Int}(hx:Wn x=x)(hy:Wn y=y)(h2:2<=s.stack.length)(hl:s.stack.length<=1048576)(ht:zIR s)(hl2:s.calls.length<=1048576)(hl3:s.tries.length<=1048576): zAU prog 90 [.d (i64 x),.d (i64 y),.ptr 9 0] (MXb m (rawS s oth)) .top (MXb m (rawS (s.ints 4 x y) oth)):=by
 have ex:=W_of hx
 have ey:=W_of hy
 refine pMod m (rawS s oth) _ x y ?_
 by_cases h0:y=0
 ·rw[show s.ints 4 x y=s.raise (-2) by simp[St.ints,h0],zE0 (by rw[ey];exact h0)]
  exact zNb m (rawS s oth) _ _ (by decide) (zKl m s oth (-2) ht hl hl2 hl3)
 ·have h:=zNa m (rawS s oth) (modV x y) (by rw[zBM];exact hl) (by rw[zBM];exact h2)
  rw[show s.ints 4 x y=s.numI 2 (x.tmod y) by simp[St.ints,h0],zE1 (by rw[ey];exact h0)]
  have e:nW (modV x y)=nW (x.tmod y):=by rw[modV,if_neg (by rw[ey];exact h0),ex,ey]
  rw[e,zHG]at h
  exact h
def two(s:St)(p:Int): St:=match s.top 1,s.top 0 with
 | .n x,.n y=>s.ints p x y
 |_,_=>s.stop 4
theorem zTa(shw:Int->List UInt8)(s:St){p:Int}(h:0<=p/\p<7): s.prim shw p=two s p:=by
 have ht:takes p=2:=by unfold takes;rw[if_neg (by omega),if_pos (by omega)]
 unfold St.prim two
 simp only[ht,if_pos h.2]
 rfl
abbrev zG9(m:Img)(s s':St)(oth oth':List Nat)(p:Int): Prop:=zAU prog 48 [.ptr 0 0,.d (i64 p)] (MX m (rawS s oth)) .top (MX m (rawS s' oth'))
theorem zMm(m:Img)(s:St)(oth:List Nat){p:Int}{f:FuncId}(hb:zAN prog f=true)(h2:2<=s.stack.length)(hl:s.stack.length<=1048576)(o1:RfOk s (s.top 1))(o0:RfOk s (s.top 0))
  (hP:∀r',zAU prog 79 [.ptr 0 0,.clo f [9]] (MXb m (rawS s oth)) .top (MXb m r')->zAU prog 48 [.ptr 0 0,.d (i64 p)] (MX m (rawS s oth)) .top (MX m r'))
  (hO:∀x y,Wn x=x->Wn y=y->zAU prog f [.d (i64 x),.d (i64 y),.ptr 9 0] (MXb m (rawS s oth)) .top (MXb m (rawS (s.ints p x y) oth))):zG9 m s (two s p) oth oth p:=by
 refine hP _ ?_
 cases h1:s.top 1 with
 |b i =>
  rw[show two s p=s.stop 4 by unfold two;rw[h1]]
  exact zWu m s oth h2 hl h1 o1
 |n x =>
  cases h0:s.top 0 with
  |b i =>
   rw[show two s p=s.stop 4 by unfold two;rw[h1,h0]]
   exact zWv m s oth h2 hl h1 h0 o1 o0
  |n y =>
   rw[show two s p=s.ints p x y by unfold two;rw[h1,h0]]
   refine zYq m s _ oth hb h2 hl h1 h0 o1 o0 (hO x y ?_ ?_)
   ·rw[h1]at o1;exact o1
   ·rw[h0]at o0;exact o0
theorem zQm(m:Img)(shw:Int->List UInt8)(s:St)(oth:List Nat){p:Int}(h:0<=p/\p<7)(h2:2<=s.stack.length)(hl:s.stack.length<=1048576)(o1:RfOk s (s.top 1))(o0:RfOk s (s.top 0))(ht:zIR s)(hl2:s.calls.length<=1048576)(hl3:s.tries.length<=1048576): zG9 m s (s.prim shw p) oth oth p:=by
 rw[zTa shw s h]
 obtain rfl|rfl|rfl|rfl|rfl|rfl|rfl:p=0\/p=1\/p=2\/p=3\/p=4\/p=5\/p=6:=by omega
 ·exact zMm m s oth zLz h2 hl o1 o0 (fun r' h=>zQt m _ r' h) fun x y _ _=>zaF m s oth x y h2 hl
 ·exact zMm m s oth zLy h2 hl o1 o0 (fun r' h=>zQs m _ r' h) fun x y _ _=>zZc m s oth x y h2 hl
 ·exact zMm m s oth zLx h2 hl o1 o0 (fun r' h=>zQr m _ r' h) fun x y _ _=>zZt m s oth x y h2 hl
 ·exact zMm m s oth zLw h2 hl o1 o0 (fun r' h=>zQq m _ r' h) fun x y hx hy=>zaA m s oth hx hy h2 hl ht hl2 hl3
 ·exact zMm m s oth zLv h2 hl o1 o0 (fun r' h=>zQp m _ r' h) fun x y hx hy=>zZu m s oth hx hy h2 hl ht hl2 hl3
 ·exact zMm m s oth zLu h2 hl o1 o0 (fun r' h=>zQo m _ r' h) fun x y _ _=>eq_m m s oth x y h2 hl
 ·exact zMm m s oth zLt h2 hl o1 o0 (fun r' h=>zQn m _ r' h) fun x y _ _=>zYo m s oth x y h2 hl
theorem zMR{s:St}(oth:List Nat){n:Nat}(h:n<=s.stack.length)(h1:1<=n)(hl:s.stack.length<=1048576): Arg (rawS s oth) n (wdN s.all s.ly (s.top (n-1))) :=
 ⟨by rw[zBM];exact h,h1,zFB s oth (by omega),by rw[zBM];exact hl⟩
theorem zMw(m:Img)(s:St)(oth:List Nat)(h1:1<=s.stack.length)(hl:s.stack.length<=1048576)(o0:RfOk s (s.top 0))(ho:s.out.length<=1048576): zG9 m s (s.prim shw 12) oth oth 12:=by
 have ha:=zMR oth (n:=1) h1 (by omega) hl
 have ht:takes 12=1:=rfl
 cases h0:s.top 0 with
 |n x =>
  have hx:Wn x=x:=by rw[h0]at o0;exact o0
  rw[show s.prim shw 12=s.put (shw x) by simp[St.prim,ht,h0]]
  rw[qBF,h0]at ha
  have h:=zQl m (rawS s oth) ha (zGe s.all s.ly hx) ho
  rw[W_of hx]at h
  exact h
 |b i =>
  rw[show s.prim shw 12=s.stop 4 by simp[St.prim,ht,h0]]
  rw[qBF,h0]at ha
  rw[h0]at o0
  exact zLg m (rawS s oth) ha (zHS s.all s.ly o0)
variable {m:Img}{A:Nat->Option VS}
theorem zH6{o:Thing}(h:Ov m A o): HeadOk o:=by
 refine⟨?_,h.tag,?_⟩
 ·have:=h.kind;omega
 ·unfold Thing.size Thing.need
  have h1:=h.few
  split
  ·rename_i h4;have:=(h.txt h4).2.2;omega
  ·omega
theorem zKs{o:Thing}(h:o.kind≠4): o.size=o.parts.length:=by unfold Thing.size Thing.need;rw[if_neg h];omega
theorem zHi{s:St}{i:Nat}(hi:i∈s.ly): (zBs s.all s.ly)[offL s.all s.ly i]?=some (zCt (zAV s.all i)):=by
 have:=zMQ (all:=s.all) (f:=zC2 s.all s.ly) (zC8 s.all s.ly) hi (k:=0) (zF3 _)
 rw[qA3]at this
 exact this
theorem zKv{s:St}{i k:Nat}(hi:i∈s.ly)(hk:k<(zAV s.all i).size): (zBs s.all s.ly)[offL s.all s.ly i+1+k]?=(zFH s.all s.ly (zAV s.all i))[k]?:=by
 have:=zMQ (all:=s.all) (f:=zC2 s.all s.ly) (zC8 s.all s.ly) hi (k:=k+1) (by have:=zDS (zAV s.all i);omega)
 rw[show offL s.all s.ly i+1+k=offL s.all s.ly i+(k+1) by omega]
 exact this
theorem zHH{s:St}(h:Lay m A s)(hw:s.words<=1048576): (zBs s.all s.ly).length<=1048576:=by
 rw[zET]
 have h1:=h.used
 have h2:=h.room
 omega
theorem zIX{s:St}(h:Lay m A s)(hw:s.words<=1048576)(oth:List Nat){i:Nat}(hi:i∈s.ly):
  BlkQ (rawS s oth) (wdN s.all s.ly (.b i)) (zAV s.all i).kind (zAV s.all i).tag (if(zAV s.all i).kind=4 then 0 else((zAV s.all i).size:Int)) true :=
 zIy s.words (zBs s.all s.ly) oth (begL s.all s.ly s.words.toNat) (zHi hi) (zH6 (h.objs i (h.lt i hi))) (zHH h hw) (zJg hi)
theorem zNx{s:St}(h:Lay m A s)(hw:s.words<=1048576)(oth:List Nat){i k:Nat}(hi:i∈s.ly)(h4:(zAV s.all i).kind≠4)(hk:k<(zAV s.all i).parts.length):
  zAz prog 41 [.ptr 0 0,.d (w64 (wdN s.all s.ly (.b i))),.d (i64 (k:Int))] (HO (rawS s oth).size (rawS s oth).now (rawS s oth).oth (rawS s oth).beg) (.tup [w64 (wdN s.all s.ly ((zAV s.all i).parts.getD k default)),bl true]):=by
 have hz:=zKs h4
 have hb:=zKv hi (k:=k) (by omega)
 have hg:(zFH s.all s.ly (zAV s.all i))[k]?=some (wdN s.all s.ly ((zAV s.all i).parts.getD k default)):=by
  rw[zFH,if_neg h4,qAL,qAD,qAB hk];rfl
 rw[hg]at hb
 exact zSM s.words (zBs s.all s.ly) oth (begL s.all s.ly s.words.toNat) (zHi hi) (zH6 (h.objs i (h.lt i hi))) (zHH h hw) (zJg hi) h4 (by omega) hb
theorem zP9{s:St}(h:Lay m A s)(hw:s.words<=1048576)(oth:List Nat){i:Nat}(hi:i∈s.ly)(h4:(zAV s.all i).kind=4): TxtQ (rawS s oth) (wdN s.all s.ly (.b i)) (zAV s.all i).text:=by
 have ho:=h.objs i (h.lt i hi)
 have ht:=ho.txt h4
 refine zXi s.words (zBs s.all s.ly) oth (begL s.all s.ly s.words.toNat) (zHi hi) (zH6 ho) h4 ht.2.1 ht.2.2 (zHH h hw) (zJg hi) fun q hq=>?_
 rw[zKv hi hq,zFH,if_pos h4]
theorem zYg{s:St}(h:Lay m A s)(hw:s.words<=1048576){i:Nat}(hi:i∈s.ly): offL s.all s.ly i<1048576:=by
 have h1:=zLm (all:=s.all) hi
 have h2:=zF3 (zAV s.all i)
 have h3:=h.used
 have h4:=h.room
 omega
theorem zQd{s:St}(h:Lay m A s)(hw:s.words<=1048576){r:Rf}(hv:Val s r): RfOk s r:=by
 cases r with
 |n v=>exact hv.num
 |b i =>
  have:=zYg h hw (hv.ly i rfl)
  show 2*offL s.all s.ly i<_
  omega
theorem of_t{s:St}(h:Lay m A s)(hw:s.words<=1048576)(oth:List Nat){r:Rf}(hv:Val s r){k:Int}(hk:s.of r k=true): zAz prog 52 [.ptr 0 0,.d (w64 (wdN s.all s.ly r)),.d (i64 k)] (MX m (rawS s oth)) (bl true):=by
 cases r with
 |n v=>cases hk
 |b i =>
  have e:(zAV s.all i).kind=k:=of_decide_eq_true hk
  have hB:=zIX h hw oth (hv.ly i rfl)
  rw[e]at hB
  exact zFQ m (rawS s oth) hB
theorem of_f{s:St}(h:Lay m A s)(hw:s.words<=1048576)(oth:List Nat){r:Rf}(hv:Val s r){k:Int}(hk:s.of r k=false): zAU prog 52 [.ptr 0 0,.d (w64 (wdN s.all s.ly r)),.d (i64 k)] (MX m (rawS s oth)) (.d (bl false)) (MX m (rawS (s.stop 4) oth)):=by
 cases r with
 |n v =>
  obtain⟨h1,h2⟩:=zNc s.all s.ly v
  exact zYh m (rawS s oth) (zSX s.words (zBs s.all s.ly) oth (begL s.all s.ly s.words.toNat) h1 h2) (.inl rfl)
 |b i =>
  have e:(zAV s.all i).kind≠k:=of_decide_eq_false hk
  exact zYh m (rawS s oth) (zIX h hw oth (hv.ly i rfl)) (.inr e)
end Go.Proofs.YtcagoomibpcdlaaGreatDoor
namespace Go.Proofs.YtcagoomibpcdlaaGreatDoor
open _root_.Go.Proofs.Tryz
open Go.Sx Go.Vm
variable {m:Img}{A:Nat->Option VS}
theorem of_b{s:St}{r:Rf}{k:Int}(h:s.of r k=true): ∃i,r=.b i/\(zAV s.all i).kind=k:=by
 cases r with
 |n v=>cases h
 |b i=>exact⟨i,rfl,of_decide_eq_true h⟩
theorem zZB{s:St}(h:Lay m A s)(hw:s.words<=1048576)(oth:List Nat)(tail:Bool)(h2:2<=s.stack.length)(hl:s.stack.length<=1048576)(hc:s.calls.length<=1000)(hb:0<=s.c.base/\s.c.base<=s.stack.length)(hv:Val s (s.top 1)):
  zAU prog 44 [.ptr 0 0,.d (bl tail)] (MX m (rawS s oth)) .top (MX m (rawS (s.app tail) oth)):=by
 have ht:Top2 (rawS s oth) (wdN s.all s.ly (s.top 1)) (wdN s.all s.ly (s.top 0)):=⟨by rw[zBM];exact h2,zFB s oth (by omega),zFB s oth (by omega),by rw[zBM];exact hl⟩
 cases hof:s.of (s.top 1) 2 with
 |false =>
  rw[show s.app tail=s.stop 4 by simp[St.app,hof]]
  exact zUa m (rawS s oth) tail ht (of_f h hw oth hv hof)
 |true =>
  obtain⟨i,e,hk⟩:=of_b hof
  have hi:=hv.ly i e
  have hB:=zIX h hw oth hi
  rw[hk]at hB
  rw[e]at ht
  have ho:s.of (.b i) 2=true:=e▸hof
  cases tail with
  |true =>
   rw[show s.app true = { s with stack:=s.stack.take s.c.base.toNat++[s.top 0],c:=⟨(zAV s.all i).tag,s.c.base,.b i⟩ } by simp[St.app,ho,e,St.obj,zAV],zTQ]
   exact zPn m (rawS s oth) ht (by rw[zBM];exact hb) hB
  |false =>
   by_cases hq:s.calls.length>=1000
   ·rw[show s.app false=s.stop 6 by simp[St.app,hof,hq]]
    have hO:=of_t h hw oth hv hof
    rw[e]at hO
    exact zPo m (rawS s oth) ht (by rw[zHC];omega) hO
   ·rw[show s.app false = { s with calls:=s.calls++[s.c],stack:=s.stack.take (s.stack.length-2)++[s.top 0],c:=⟨(zAV s.all i).tag,(s.stack.length:Int)-2,.b i⟩ } by simp[St.app,ho,e,St.obj,zAV,hq],zTT]
    exact zPp m (rawS s oth) ht (by rw[zHC];omega) hB
theorem zGZ{s:St}(h:Lay m A s): Lay m A (fwd s):=h.sub rfl rfl rfl rfl fun _r hr=>h.val hr
theorem st_7{s:St}(h:Lay m A s)(hw:s.words<=1048576)(oth:List Nat){a b:Int}(hc:InsAt m (rawS s oth) ⟨7,a,b⟩)(h2:2<=s.stack.length)(hl:s.stack.length<=4000)(hq:s.calls.length<=1000)(hb:0<=s.c.base/\s.c.base<=s.stack.length)(hv:Val s (s.top 1)): zCA m s ((fwd s).app false) oth oth :=
 zYI m (rawS s oth) _ hc (zZB (s:=fwd s) (zGZ h) hw oth false h2 (by show s.stack.length<=_;omega) hq hb ⟨hv.num,hv.ly⟩)
theorem st_8{s:St}(h:Lay m A s)(hw:s.words<=1048576)(oth:List Nat){a b:Int}(hc:InsAt m (rawS s oth) ⟨8,a,b⟩)(h2:2<=s.stack.length)(hl:s.stack.length<=4000)(hq:s.calls.length<=1000)(hb:0<=s.c.base/\s.c.base<=s.stack.length)(hv:Val s (s.top 1)): zCA m s ((fwd s).app true) oth oth :=
 zYH m (rawS s oth) _ hc (zZB (s:=fwd s) (zGZ h) hw oth true h2 (by show s.stack.length<=_;omega) hq hb ⟨hv.num,hv.ly⟩)
theorem st_3{s:St}(h:Lay m A s)(hw:s.words<=1048576)(oth:List Nat){a b:Int}{i:Nat}(hc:InsAt m (rawS s oth) ⟨3,a,b⟩)(hl:s.stack.length<=4000)(hf:s.c.fun_=.b i)(hk:(zAV s.all i).kind=2)(ha:0<=a)(hp:a<(zAV s.all i).parts.length):
  zCA m s ((fwd s).push (((fwd s).obj (fwd s).c.fun_).parts.getD a.toNat default)) oth oth:=by
 have hi:i∈s.ly:=h.fun_.ly i hf
 have e:a=(a.toNat:Int):=(qAw ha).symm
 unfold zCA St.push
 split
 ·rename_i hh;exact zV1 m (rawS s oth) _ hc (zRN m oth hl hh)
 ·rename_i hh
  have hX:=zNx h hw oth hi (k:=a.toNat) (by omega) (by omega)
  rw[<-e,<-hf]at hX
  have ho:((fwd s).obj (fwd s).c.fun_)=zAV s.all i:=by show s.obj s.c.fun_=_;rw[hf];rfl
  rw[ho]
  exact zYM m (rawS s oth) _ hc (zRO m oth hl (by simpa using hh)) hX (zWR m oth hl _)
theorem zXE{s:St}(h:Lay m A s)(hw:s.words<=1048576)(oth:List Nat){a:Int}(ha:0<=a)(h1:1<=s.stack.length)(hl:s.stack.length<=1048576)(hv:Val s (s.top 0)):
  zAU prog 47 [.ptr 0 0,.d (i64 a)] (MX m (rawS s oth)) .top (MX m (rawS (if !s.of (s.top 0) 1||decide (a>=((s.obj (s.top 0)).parts.length:Int))then s.stop 4 else s.instead 1 ((s.obj (s.top 0)).parts.getD a.toNat default)) oth)):=by
 have g1:1<=(rawS s oth).stk.length:=by rw[zBM];exact h1
 have g2:(rawS s oth).stk.length<=1048576:=by rw[zBM];exact hl
 have ht:=zFB s oth (k:=0) (by omega)
 cases hof:s.of (s.top 0) 1 with
 |false=>exact zUJ m (rawS s oth) a g1 ht g2 (of_f h hw oth hv hof)
 |true =>
  obtain⟨i,e,hk⟩:=of_b hof
  have hi:=hv.ly i e
  have ho:=h.objs i (h.lt i hi)
  have hB:=zIX h hw oth hi
  have hz:=zKs (o:=zAV s.all i) (by omega)
  rw[e]at ht
  rw[hk]at hB
  have eo:s.obj (s.top 0)=zAV s.all i:=by rw[e];rfl
  rw[eo]
  by_cases hp:a>=((zAV s.all i).parts.length:Int)
  ·rw[decide_eq_true hp]
   have hP:=zXn s.words (zBs s.all s.ly) oth (begL s.all s.ly s.words.toNat) (zHi hi) (zH6 ho) (zHH h hw) (zJg hi) (k:=a) (by rw[if_neg (by omega),hz];exact hp)
   exact zRb m (rawS s oth) a g1 ht g2 hB hP
  ·rw[decide_eq_false hp]
   have hX:=zNx h hw oth hi (k:=a.toNat) (by omega) (by omega)
   rw[<-(qAw ha)]at *
   have hf:=zUI m (rawS s oth) _ g1 ht g2 hB hX
   rw[<-zEK]at hf
   exact hf
theorem zZm{s:St}(h:Lay m A s)(hw:s.words<=1048576)(oth:List Nat){a b:Int}(hc:InsAt m (rawS s oth) ⟨11,a,b⟩)(ha:0<=a)(h1:1<=s.stack.length)(hl:s.stack.length<=4000)(hv:Val s (s.top 0)):
  zCA m s (if !(fwd s).of ((fwd s).top 0) 1||decide (a>=(((fwd s).obj ((fwd s).top 0)).parts.length:Int))then(fwd s).stop 4 else(fwd s).instead 1 (((fwd s).obj ((fwd s).top 0)).parts.getD a.toNat default)) oth oth :=
 zWC m (rawS s oth) _ hc (zXE (s:=fwd s) (zGZ h) hw oth ha h1 (by show s.stack.length<=_;omega) ⟨hv.num,hv.ly⟩)
theorem zPG(shw:Int->List UInt8){s:St}(h:Lay m A s)(hw:s.words<=1048576)(oth:List Nat)(h1:1<=s.stack.length)(hl:s.stack.length<=1048576)(hv:Val s (s.top 0)): zG9 m s (s.prim shw 8) oth oth 8:=by
 have ha:=zMR oth (n:=1) h1 (by omega) hl
 rw[qBF]at ha
 have ht:takes 8=1:=rfl
 refine zMx m _ _ ?_
 cases hof:s.of (s.top 0) 4 with
 |false =>
  rw[show s.prim shw 8=s.stop 4 by simp[St.prim,ht,hof]]
  exact zQ4 m (rawS s oth) ha (of_f h hw oth hv hof)
 |true =>
  obtain⟨i,e,hk⟩:=of_b hof
  have hi:=hv.ly i e
  have hB:=zIX h hw oth hi
  rw[hk]at hB
  rw[e]at ha
  rw[show s.prim shw 8=s.numI 1 (zAV s.all i).text.length by simp[St.prim,ht,hof];rw[e];rfl,zIk]
  exact zQ5 m (rawS s oth) ha hB (zP9 h hw oth hi hk)
theorem zPE(shw:Int->List UInt8){s:St}(h:Lay m A s)(hw:s.words<=1048576)(oth:List Nat)(h1:1<=s.stack.length)(hl:s.stack.length<=1048576)(hv:Val s (s.top 0))(ho:s.out.length<=1048576): zG9 m s (s.prim shw 13) oth oth 13:=by
 have ha:=zMR oth (n:=1) h1 (by omega) hl
 rw[qBF]at ha
 have ht:takes 13=1:=rfl
 refine zLh m _ _ ?_
 cases hof:s.of (s.top 0) 4 with
 |false =>
  rw[show s.prim shw 13=s.stop 4 by simp[St.prim,ht,hof]]
  exact zPL m (rawS s oth) ha (of_f h hw oth hv hof)
 |true =>
  obtain⟨i,e,hk⟩:=of_b hof
  have hi:=hv.ly i e
  have hB:=zIX h hw oth hi
  rw[hk]at hB
  rw[e]at ha
  rw[show s.prim shw 13=(s.put (zAV s.all i).text).numI 1 0 by simp[St.prim,ht,hof];rw[e];rfl,zIk]
  exact zQ3 m (rawS s oth) ha hB (zP9 h hw oth hi hk) ho
theorem zPH(shw:Int->List UInt8){s:St}(h:Lay m A s)(hw:s.words<=1048576)(oth:List Nat)(h1:1<=s.stack.length)(hl:s.stack.length<=1048576)(hv:Val s (s.top 0)): zG9 m s (s.prim shw 10) oth oth 10:=by
 have ha:=zMR oth (n:=1) h1 (by omega) hl
 rw[qBF]at ha
 have ht:takes 10=1:=rfl
 refine zLj m _ _ ?_
 cases hof:s.of (s.top 0) 3 with
 |false =>
  rw[show s.prim shw 10=s.stop 4 by simp[St.prim,ht,hof]]
  exact zPN m (rawS s oth) ha (of_f h hw oth hv hof)
 |true =>
  obtain⟨i,e,hk⟩:=of_b hof
  have hi:=hv.ly i e
  have hB:=zIX h hw oth hi
  rw[hk]at hB
  rw[e]at ha
  have hc:=(h.objs i (h.lt i hi)).cell hk
  rw[show s.prim shw 10=s.instead 1 ((zAV s.all i).parts.getD 0 default) by simp[St.prim,ht,hof];rw[e];rfl,zEK]
  exact zQ6 m (rawS s oth) ha hB (zNx h hw oth hi (k:=0) (by omega) (by omega))
end Go.Proofs.YtcagoomibpcdlaaGreatDoor
namespace Go.Proofs.YtcagoomibpcdlaaGreatDoor
open Go.Sx Go.Vm
variable {m:Img}{A:Nat->Option VS}
theorem zZf{s:St}(h:Lay m A s)(hw:s.words<=1048576)(oth:List Nat){a b:Int}(hc:InsAt m (rawS s oth) ⟨19,a,b⟩)(h1:1<=s.stack.length)(hl:s.stack.length<=4000)(hv:Val s (s.top 0)):
  zCA m s (if !(fwd s).of ((fwd s).top 0) 1 then(fwd s).stop 4 else if((fwd s).obj ((fwd s).top 0)).tag≠b then(fwd s).goto a else fwd s) oth oth:=by
 have hL:=zGZ h
 have hT:=zKa (s:=s) m oth hl (k:=0) (by omega)
 cases hof:s.of (s.top 0) 1 with
 |false =>
  have e:(fwd s).of ((fwd s).top 0) 1=false:=hof
  rw[e]
  exact zS7 m (rawS s oth) _ hc hT (of_f (s:=fwd s) hL hw oth ⟨hv.num,hv.ly⟩ hof)
 |true =>
  have e:(fwd s).of ((fwd s).top 0) 1=true:=hof
  rw[e]
  obtain⟨i,e1,hk⟩:=of_b hof
  have hi:=hv.ly i e1
  have hB:=zIX h hw oth hi
  rw[hk]at hB
  have hO:=of_t (s:=fwd s) hL hw oth (r:=s.top 0) ⟨hv.num,hv.ly⟩ hof
  have eo:(fwd s).obj ((fwd s).top 0)=zAV s.all i:=by show s.obj (s.top 0)=_;rw[e1];rfl
  rw[eo]
  rw[<-e1]at hB
  exact zV4 m (rawS s oth) _ hc hT hO hB (zRV m (fwd s) oth a ((zAV s.all i).tag≠b))
end Go.Proofs.YtcagoomibpcdlaaGreatDoor
namespace Go.Proofs.YtcagoomibpcdlaaGreatDoor
open Go.Sx Go.Vm
theorem zLb(s:St)(oth:List Nat): rtsR (rawS s oth)=s.roots.map (wdN s.all s.ly):=by
 simp[rtsR,rawS,St.roots,rcl,rty,List.map_map,Function.comp_def]
theorem zNh(all:List Thing)(ly ly':List Nat)(rest:List Nat): ∀(l:List Cl),setC (l.map (rcl all ly)) ((l.map (·.fun_)).map (wdN all ly')++rest)=l.map (rcl all ly')
 |[]=>by simp[setC]
 |c::l=>by
  have:=zNh all ly ly' rest l
  simp only[setC]at this
  simp only[setC,qAr,qBk,List.zipWith_cons_cons,this]
  rfl
theorem zNg(all:List Thing)(ly ly':List Nat)(rest:List Nat): ∀(l:List Ty),setT (l.map (rty all ly)) ((l.map (·.c.fun_)).map (wdN all ly')++rest)=l.map (rty all ly')
 |[]=>by simp[setT]
 |c::l=>by
  have:=zNg all ly ly' rest l
  simp only[setT]at this
  simp only[setT,qAr,qBk,List.zipWith_cons_cons,this]
  rfl
theorem zYc(s:St)(oth oth':List Nat)(ly':List Nat)(u:Int):
  rawS { s with used:=u,ly:=ly' } oth'=gcR (rawS s oth) (zBs s.all ly') oth' (begL s.all ly' s.words.toNat) (s.roots.map (wdN s.all ly')):=by
 have hl:(rawS s oth).stk.length=(s.stack.map (wdN s.all ly')).length:=by rw[zBM,qAC]
 have hc:(rawS s oth).cls.length=((s.calls.map (·.fun_)).map (wdN s.all ly')).length:=by rw[zHC,qAC,qAC]
 have hw:s.roots.map (wdN s.all ly')=s.stack.map (wdN s.all ly')++(wdN s.all ly' s.c.fun_::((s.calls.map (·.fun_)).map (wdN s.all ly')++((s.tries.map (·.c.fun_)).map (wdN s.all ly')++[]))):=by
  simp[St.roots]
 have e1:(s.roots.map (wdN s.all ly')).take (rawS s oth).stk.length=s.stack.map (wdN s.all ly'):=by rw[hl,hw,List.take_left'];rfl
 have e2:(s.roots.map (wdN s.all ly')).getD (rawS s oth).stk.length 0=wdN s.all ly' s.c.fun_:=by
  rw[hl,hw,qAD,qAG (qAN _),qBF];rfl
 have e3:(s.roots.map (wdN s.all ly')).drop ((rawS s oth).stk.length+1)=(s.calls.map (·.fun_)).map (wdN s.all ly')++((s.tries.map (·.c.fun_)).map (wdN s.all ly')++[]):=by
  rw[<-List.drop_drop,hl,hw,List.drop_left']
  ·rfl
  ·rfl
 have e4:(s.roots.map (wdN s.all ly')).drop ((rawS s oth).stk.length+1+(rawS s oth).cls.length)=(s.tries.map (·.c.fun_)).map (wdN s.all ly')++[]:=by
  rw[<-List.drop_drop,e3,hc,List.drop_left'];rfl
 unfold gcR
 rw[e1,e2,e3,e4]
 have h5:=zNh s.all s.ly ly' ((s.tries.map (·.c.fun_)).map (wdN s.all ly')++[]) s.calls
 have h6:=zNg s.all s.ly ly' [] s.tries
 have h5':setC (rawS s oth).cls ((s.calls.map (·.fun_)).map (wdN s.all ly')++((s.tries.map (·.c.fun_)).map (wdN s.all ly')++[]))=s.calls.map (rcl s.all ly'):=h5
 have h6':setT (rawS s oth).trs ((s.tries.map (·.c.fun_)).map (wdN s.all ly')++[])=s.tries.map (rty s.all ly'):=h6
 rw[h5',h6']
 rfl
open _root_.Go.Proofs.Tryz
variable {m:Img}{A:Nat->Option VS}
theorem zU1{s:St}(h:Lay m A s)(hw0:0<=s.words)(hw:s.words<=1048576)(hl:s.stack.length<=200000/\s.calls.length<=200000/\s.tries.length<=200000)(oth:List Nat)(n:Nat):
  ∃oth',zAU prog 76 [.ptr 0 0,.d (i64 (n:Int))] (MX m (rawS s oth)) (.d (bl (decide ((n:Int)<=(s.gc n).words-(s.gc n).used)))) (MX m (rawS (if(n:Int)<=(s.gc n).words-(s.gc n).used then s.gc n else(s.gc n).stop 5) oth')):=by
 have hlen:(((rawS s oth).now.length:Nat):Int)=s.used:=by show (((zBs s.all s.ly).length:Nat):Int)=_;rw[zET,h.used]
 have hn:=zHH h hw
 by_cases hq:s.words-s.used<(n:Int)
 ·have eg:s.gc n = { s with used:=(live s.all s.roots:Int),ly:=zDn s.all s.roots }:=by rw[St.gc,if_pos hq]
  have hlv:=zM3 h
  have hrl:s.roots.length<=1048576:=by
   simp only[St.roots,qAE,qAS,qAC];omega
  have hsz:sumN s.all s.ly<=s.words.toNat:=by have h1:=h.used;have h2:=h.room;omega
  have hC:=zPx (all:=s.all) (ly:=s.ly) (size:=s.words.toNat) oth s.roots h.nodup h.lt h.closed
   (fun i hi=>⟨zH6 (h.objs i (h.lt i hi)),by have:=(h.objs i (h.lt i hi)).kind;omega⟩) (fun i hi h4=>((h.objs i (h.lt i hi)).txt h4).1) hsz (by omega) (fun r hr i e=>h.roots i (e▸hr)) hrl
  have ew:((s.words.toNat:Nat):Int)=s.words:=qAw hw0
  rw[ew]at hC
  have hrr:(rtsR (rawS s oth)).length=s.roots.length:=by rw[zLb,qAC]
  have en:(((zBs s.all (zDn s.all s.roots)).length:Nat):Int)=(live s.all s.roots:Int):=by rw[zET];rfl
  have hC':zAU prog 130 [.ptr 0 0,.buf 4 (rtsR (rawS s oth)).length] (HO (rawS s oth).size (rawS s oth).now (rawS s oth).oth (rawS s oth).beg++[rowW (rtsR (rawS s oth))]) (.buf 6 (rtsR (rawS s oth)).length) (HO (rawS s oth).size (zBs s.all (zDn s.all s.roots)) (nowM s.all s.ly (zDn s.all s.roots)) (begL s.all (zDn s.all s.roots) s.words.toNat)++[rowW (rtsR (rawS s oth)),Ob.gone,rowW (s.roots.map (wdN s.all (zDn s.all s.roots)))]):=by
   rw[hrr,zLb];exact hC
  refine⟨nowM s.all s.ly (zDn s.all s.roots),?_⟩
  rw[eg]
  have hg:=zYc s oth (nowM s.all s.ly (zDn s.all s.roots)) (zDn s.all s.roots) (live s.all s.roots:Int)
  refine zWM m (rawS s oth) _ (n:Int) _ ⟨hw0,hw⟩ hn (by have:=h.room;omega) (by rw[hlen];show ¬(n:Int)<=s.words-s.used;omega) ⟨by rw[zBM];exact hl.1,by rw[zHC];exact hl.2.1,by rw[zJB];exact hl.2.2⟩ hC' (by rw[hrr,qAC]) ?_
  by_cases hq2:(n:Int)<=s.words-(live s.all s.roots:Int)
  ·refine .inl ⟨by rw[en];exact hq2,decide_eq_true hq2,?_⟩
   rw[if_pos hq2];exact hg
  ·refine .inr ⟨by rw[en];exact hq2,decide_eq_false hq2,?_⟩
   rw[if_neg hq2,zTR,hg]
 ·have eg:s.gc n=s:=by rw[St.gc,if_neg hq]
  have h1:(n:Int)<=s.words-s.used:=by omega
  refine⟨oth,?_⟩
  rw[eg,if_pos h1,decide_eq_true h1]
  exact zRG (zTK m (rawS s oth) (n:Int) ⟨hw0,hw⟩ hn (by rw[hlen];exact h1))
end Go.Proofs.YtcagoomibpcdlaaGreatDoor
namespace Go.Proofs.YtcagoomibpcdlaaGreatDoor
open Go.Sx Go.Vm
variable {m:Img}{A:Nat->Option VS}
theorem zWP{s:St}(h:Lay m A s)(oth:List Nat)(o:Thing)(ho:∀r∈o.parts,In s.ly r)(hr:s.used+(o.need:Int)<=s.words):
  rawS { s with used:=s.used+(o.need:Int),all:=s.all++[o],ly:=s.ly++[s.all.length] } oth = { rawS s oth with now:=(rawS s oth).now++zCt o::zFH s.all s.ly o,beg:=(rawS s oth).beg.set (rawS s oth).now.length true }:=by
 have hv:∀r∈s.roots,wdN (s.all++[o]) (s.ly++[s.all.length]) r=wdN s.all s.ly r:=fun r hr=>zP4 h.lt fun i e=>h.roots i (e▸hr)
 have e1:s.stack.map (wdN (s.all++[o]) (s.ly++[s.all.length]))=s.stack.map (wdN s.all s.ly):=qBU fun r hr=>hv r (zDo.2 (.inl hr))
 have e2:rcl (s.all++[o]) (s.ly++[s.all.length]) s.c=rcl s.all s.ly s.c:=by
  unfold rcl;rw[hv _ (zDo.2 (.inr (.inl rfl)))]
 have e3:s.calls.map (rcl (s.all++[o]) (s.ly++[s.all.length]))=s.calls.map (rcl s.all s.ly):=qBU fun c hc=>by
  unfold rcl;rw[hv _ (zDo.2 (.inr (.inr (.inl ⟨c,hc,rfl⟩))))]
 have e4:s.tries.map (rty (s.all++[o]) (s.ly++[s.all.length]))=s.tries.map (rty s.all s.ly):=qBU fun t ht=>by
  unfold rty rcl;rw[hv _ (zDo.2 (.inr (.inr (.inr ⟨t,ht,rfl⟩))))]
 have e5:=zP1 (o:=o) h.lt h.closed ho
 have e6:=zXQ (o:=o) (size:=s.words.toNat) h.lt (by have:=h.used;omega)
 have e7:(zBs s.all s.ly).length=sumN s.all s.ly:=zET _ _
 unfold rawS
 dsimp only
 rw[e1,e2,e3,e4,e5,e6,e7]
theorem zQg{s:St}(h:Lay m A s)(oth:List Nat)(o:Thing)(n:Nat)(ho:∀r∈o.parts,In s.ly r)(hr:s.used+(o.need:Int)<=s.words):
  rawS (s.new o n) oth = { rawS s oth with now:=(rawS s oth).now++zCt o::zFH s.all s.ly o,beg:=(rawS s oth).beg.set (rawS s oth).now.length true,stk:=(rawS s oth).stk.take ((rawS s oth).stk.length-n)++[2*(rawS s oth).now.length] }:=by
 have e:wdN (s.all++[o]) (s.ly++[s.all.length]) (.b s.all.length)=2*(zBs s.all s.ly).length:=by
  rw[wdN,zIn fun hm=>Nat.lt_irrefl _ (h.lt _ hm),zHY h.lt,zET]
 unfold St.new
 rw[zEK,zWP h oth o ho hr]
 dsimp only
 rw[e]
 rfl
end Go.Proofs.YtcagoomibpcdlaaGreatDoor
namespace Go.Proofs.YtcagoomibpcdlaaGreatDoor
open _root_.Go.Proofs.Tryz
open Go.Sx Go.Vm
variable {m:Img}{A:Nat->Option VS}
theorem zP8{s:St}(h:Lay m A s)(hw:s.words<=1048576)(oth:List Nat){r:Rf}(hv:Val s r): zAz prog 131 [.ptr 0 0,.d (w64 (wdN s.all s.ly r))] (HO (rawS s oth).size (rawS s oth).now (rawS s oth).oth (rawS s oth).beg) (bl true):=by
 cases r with
 |n v =>
  obtain⟨h1,h2⟩:=zNc s.all s.ly v
  exact zP7 s.words (zBs s.all s.ly) oth (begL s.all s.ly s.words.toNat) h1 h2
 |b i =>
  have hi:=hv.ly i rfl
  have h1:=zLm (all:=s.all) hi
  have h2:=zF3 (zAV s.all i)
  have h3:=zET s.all s.ly
  exact zSs s.words (zBs s.all s.ly) oth (begL s.all s.ly s.words.toNat) (a:=offL s.all s.ly i) (by omega) (zHH h hw) (zJg hi)
theorem zOK(s:St)(n:Nat): (s.gc n).stack=s.stack:=by unfold St.gc;split <;> rfl
theorem zOJ(s:St)(n:Nat): (s.gc n).words=s.words:=by unfold St.gc;split <;> rfl
theorem zXO{s:St}(h:Lay m A s)(hw0:0<=s.words)(hw:s.words<=1048576)(hl:s.stack.length<=4000/\s.calls.length<=200000/\s.tries.length<=200000)(oth:List Nat)(o:Thing)(ho:HeadOk o)(hk:o.kind<=3)(n:Nat)(hz:o.size=n)(hn:n<=s.stack.length)(hp:o.parts=s.partsT n):
  ∃oth',zAU prog 46 [.ptr 0 0,.d (i64 o.kind),.d (i64 o.tag),.d (i64 (n:Int))] (MX m (rawS s oth)) .top (MX m (rawS (s.block o n) oth')):=by
 subst hz
 have g1:(rawS s oth).stk.length<=1048576:=by rw[zBM];omega
 cases hh:s.high (1-o.size)with
 |true =>
  rw[show s.block o o.size=s.stop 6 by rw[St.block,hh];rfl]
  exact⟨oth,zPg m (rawS s oth) o g1 (by omega) (by rw[zBM];exact of_decide_eq_true hh)⟩
 |false =>
  have hq:¬(((rawS s oth).stk.length:Nat):Int)+(1-(o.size:Int))>4000:=by rw[zBM];exact of_decide_eq_false hh
  rw[show s.block o o.size=(s.gc o.need).alloc o o.size by rw[St.block,hh];rfl]
  obtain⟨oth',hR⟩:=zU1 h hw0 hw ⟨by omega,hl.2⟩ oth o.need
  have hs:=zDS o
  refine⟨oth',?_⟩
  have hL:=h.gc (n:=o.need)
  have es:=zOK s o.need
  have ew:=zOJ s o.need
  by_cases hf:(o.need:Int)<=(s.gc o.need).words-(s.gc o.need).used
  ·rw[if_pos hf,decide_eq_true hf,hs]at hR
   rw[show (s.gc o.need).alloc o o.size=(s.gc o.need).new o o.size by rw[St.alloc,if_neg (by omega)]]
   have hb:o.kind≠4:=by omega
   have hnow:(rawS (s.gc (o.size+1)) oth').now.length=sumN (s.gc (o.size+1)).all (s.gc (o.size+1)).ly:=zET _ _
   rw[hs]at hL es ew hf ⊢
   have hu:=hL.used
   have hro:=hL.room
   have hpp:o.parts=(s.gc (o.size+1)).stack.drop ((s.gc (o.size+1)).stack.length-o.size):=by rw[es,hp];rfl
   have hst:(rawS (s.gc (o.size+1)) oth').stk.length=s.stack.length:=by rw[zBM,es]
   have hbl:((rawS (s.gc (o.size+1)) oth').beg.length:Int)=(s.gc (o.size+1)).words:=by
    show (((begL _ _ _).length:Nat):Int)=_
    rw[zJf _ _ (by omega)];omega
   have hB:=zRo m (rawS s oth) (rawS (s.gc (o.size+1)) oth') o ho hk g1 (by omega) hq hR ⟨by show 0<=(s.gc _).words;omega,by show (s.gc _).words<=_;omega⟩ (by rw[hnow];show _<=(s.gc _).words;omega) hbl (by omega) (by omega) (fun i x hi hx=>by
    have hx':(((s.gc (o.size+1)).stack.map (wdN (s.gc (o.size+1)).all (s.gc (o.size+1)).ly)))[(rawS (s.gc (o.size+1)) oth').stk.length-o.size+i]?=some x:=hx
    rw[qAL]at hx'
    obtain⟨r,hr,rfl⟩:=Option.map_eq_some_iff.1 hx'
    exact zP8 hL (by omega) oth' (hL.stack (qAK hr)))
   rw[zQg hL oth' o o.size (fun r hr i e=>hL.roots i (by rw[hpp]at hr;exact e▸zDo.2 (.inl (qAl hr)))) (by omega)]
   have hbody:zFH (s.gc (o.size+1)).all (s.gc (o.size+1)).ly o=(rawS (s.gc (o.size+1)) oth').stk.drop ((rawS (s.gc (o.size+1)) oth').stk.length-o.size):=by
    rw[zFH,if_neg hb,zBM]
    conv=>lhs;rw[hpp]
    rw[List.map_drop];rfl
   rw[hbody]
   exact hB
  ·rw[if_neg hf,decide_eq_false hf,hs]at hR
   rw[show (s.gc o.need).alloc o o.size=(s.gc o.need).stop 5 by rw[St.alloc,if_pos (by omega)]]
   rw[hs]
   exact zPf m (rawS s oth) _ o g1 (by omega) hq hR
end Go.Proofs.YtcagoomibpcdlaaGreatDoor
namespace Go.Proofs.YtcagoomibpcdlaaGreatDoor
open _root_.Go.Proofs.Tryz
open Go.Sx Go.Vm
variable {m:Img}{A:Nat->Option VS}
theorem zQz(s:St){n:Nat}(h:n<=s.stack.length): (s.partsT n).length=n:=by unfold St.partsT;rw[qAe];omega
theorem zWk(s:St){k tag:Int}(hk:k≠4){n:Nat}(h:n<=s.stack.length): (⟨k,tag,[],s.partsT n⟩:Thing).size=n:=by
 unfold Thing.size Thing.need
 rw[if_neg hk]
 show 1+(s.partsT n).length-1=n
 rw[zQz s h];omega
theorem zRH{s:St}(h:Lay m A s)(hw0:0<=s.words)(hw:s.words<=1048576)(hl:s.stack.length<=4000/\s.calls.length<=200000/\s.tries.length<=200000)(oth:List Nat){k tag:Int}(hk:1<=k/\k<=3)(ht:0<=tag/\tag<=1048576){n:Nat}(hn:n<=s.stack.length):
  ∃oth',zAU prog 46 [.ptr 0 0,.d (i64 k),.d (i64 tag),.d (i64 (n:Int))] (MX m (rawS s oth)) .top (MX m (rawS (s.block ⟨k,tag,[],s.partsT n⟩ n) oth')):=by
 have hz:=zWk s (k:=k) (tag:=tag) (by omega) hn
 exact zXO h hw0 hw hl oth ⟨k,tag,[],s.partsT n⟩ ⟨by show 1<=k/\k<=4;omega,ht,by rw[hz];omega⟩ hk.2 n hz hn rfl
theorem zZn{s:St}(h:Lay m A s)(hw0:0<=s.words)(hw:s.words<=1048576)(hl:s.stack.length<=4000/\s.calls.length<=200000/\s.tries.length<=200000)(oth:List Nat){a b:Int}(hc:InsAt m (rawS s oth) ⟨10,a,b⟩)(ha:0<=a/\a<=1048576)(hb:0<=b)(hn:b<=s.stack.length):
  ∃oth',zCA m s ((fwd s).block ⟨1,a,[],(fwd s).partsT b.toNat⟩ b.toNat) oth oth':=by
 obtain⟨oth',hR⟩:=zRH (s:=fwd s) (zGZ h) hw0 hw hl oth (k:=1) (tag:=a) (by omega) ha (n:=b.toNat) (by show _<=s.stack.length;omega)
 rw[qAw hb]at hR
 exact⟨oth',zWD m (rawS s oth) _ hc hR⟩
theorem zZg{s:St}(h:Lay m A s)(hw0:0<=s.words)(hw:s.words<=1048576)(hl:s.stack.length<=4000/\s.calls.length<=200000/\s.tries.length<=200000)(oth:List Nat){a b:Int}(hc:InsAt m (rawS s oth) ⟨18,a,b⟩)(ha:0<=a/\a<=1048576)(hb:0<=b)(hn:b<=s.stack.length):
  ∃oth',zCA m s ((fwd s).block ⟨2,a,[],(fwd s).partsT b.toNat⟩ b.toNat) oth oth':=by
 obtain⟨oth',hR⟩:=zRH (s:=fwd s) (zGZ h) hw0 hw hl oth (k:=2) (tag:=a) (by omega) ha (n:=b.toNat) (by show _<=s.stack.length;omega)
 rw[qAw hb]at hR
 exact⟨oth',zV5 m (rawS s oth) _ hc hR⟩
theorem zPF(shw:Int->List UInt8){s:St}(h:Lay m A s)(hw0:0<=s.words)(hw:s.words<=1048576)(hl:s.stack.length<=4000/\s.calls.length<=200000/\s.tries.length<=200000)(oth:List Nat)(h1:1<=s.stack.length): ∃oth',zG9 m s (s.prim shw 9) oth oth' 9:=by
 obtain⟨oth',hR⟩:=zRH h hw0 hw hl oth (k:=3) (tag:=0) (by omega) (by omega) (n:=1) h1
 exact⟨oth',zTb m _ _ hR⟩
end Go.Proofs.YtcagoomibpcdlaaGreatDoor
namespace Go.Proofs.YtcagoomibpcdlaaGreatDoor
open _root_.Go.Proofs.Tryz
open Go.Sx Go.Vm
variable {m:Img}{A:Nat->Option VS}
theorem zUw{s:St}(h:Lay m A s)(hw0:0<=s.words)(hw:s.words<=1048576)(hl:s.stack.length<=4000/\s.calls.length<=200000/\s.tries.length<=200000)(oth:List Nat)(t:List UInt8)(ht:t.length<=200)(n:Nat)(hn:n<=s.stack.length):
  ∃oth',zAU prog 75 [.ptr 0 0,.d (str t),.d (i64 (n:Int))] (MX m (rawS s oth)) .top (MX m (rawS (s.block (zBy t) n) oth')):=by
 have g1:(rawS s oth).stk.length<=1048576:=by rw[zBM];omega
 have en:(zBy t).need=(t.length+7) / 8+1:=by unfold Thing.need zBy;rw[if_pos rfl];show 1+(t.length+7) / 8=_;omega
 cases hh:s.high (1-n)with
 |true =>
  rw[show s.block (zBy t) n=s.stop 6 by rw[St.block,hh];rfl]
  exact⟨oth,zQE m (rawS s oth) t n g1 (by omega) (by rw[zBM];exact of_decide_eq_true hh)⟩
 |false =>
  have hq:¬(((rawS s oth).stk.length:Nat):Int)+(1-(n:Int))>4000:=by rw[zBM];exact of_decide_eq_false hh
  rw[show s.block (zBy t) n=(s.gc (zBy t).need).alloc (zBy t) n by rw[St.block,hh];rfl]
  obtain⟨oth',hR⟩:=zU1 h hw0 hw ⟨by omega,hl.2⟩ oth (zBy t).need
  refine⟨oth',?_⟩
  have hL:=h.gc (n:=(zBy t).need)
  have es:=zOK s (zBy t).need
  have ew:=zOJ s (zBy t).need
  by_cases hf:((zBy t).need:Int)<=(s.gc (zBy t).need).words-(s.gc (zBy t).need).used
  ·rw[if_pos hf,decide_eq_true hf,en]at hR
   rw[show (s.gc (zBy t).need).alloc (zBy t) n=(s.gc (zBy t).need).new (zBy t) n by rw[St.alloc,if_neg (by omega)]]
   have hnow:(rawS (s.gc ((t.length+7) / 8+1)) oth').now.length=sumN (s.gc ((t.length+7) / 8+1)).all (s.gc ((t.length+7) / 8+1)).ly:=zET _ _
   have en':=en
   rw[en]at hL es ew hf ⊢
   have hu:=hL.used
   have hro:=hL.room
   have hst:(rawS (s.gc ((t.length+7) / 8+1)) oth').stk.length=s.stack.length:=by rw[zBM,es]
   have hbl:((rawS (s.gc ((t.length+7) / 8+1)) oth').beg.length:Int)=(s.gc ((t.length+7) / 8+1)).words:=by
    show (((begL _ _ _).length:Nat):Int)=_
    rw[zJf _ _ (by omega)];omega
   have hB:=zS2 m (rawS s oth) (rawS (s.gc ((t.length+7) / 8+1)) oth') t ht n g1 (by omega) hq hR ⟨by show 0<=(s.gc _).words;omega,by show (s.gc _).words<=_;omega⟩ (by rw[hnow,en'];show _<=(s.gc _).words;omega) hbl (by omega) (by omega)
   rw[zQg hL oth' (zBy t) n (fun r hr=>absurd hr (by simp[zBy])) (by rw[en'];omega)]
   exact hB
  ·rw[if_neg hf,decide_eq_false hf,en]at hR
   rw[show (s.gc (zBy t).need).alloc (zBy t) n=(s.gc (zBy t).need).stop 5 by rw[St.alloc,if_pos (by omega)]]
   rw[en]
   exact zQD m (rawS s oth) _ t ht n g1 (by omega) hq hR
end Go.Proofs.YtcagoomibpcdlaaGreatDoor
namespace Go.Proofs.YtcagoomibpcdlaaGreatDoor
open Go.Sx Go.Vm
variable {m:Img}{A:Nat->Option VS}
theorem st_1{s:St}(h:Lay m A s)(hi:ImgOk m)(hw0:0<=s.words)(hw:s.words<=1048576)(hl:s.stack.length<=4000/\s.calls.length<=200000/\s.tries.length<=200000)(oth:List Nat){a b:Int}(hc:InsAt m (rawS s oth) ⟨1,a,b⟩)(ha:0<=a)(hp:a<m.pool.length):
  ∃oth',zCA m s (if(m.pool.getD a.toNat default).isText then(fwd s).block (zBy (m.pool.getD a.toNat default).text) 0 else(fwd s).push (numR (m.pool.getD a.toNat default).num)) oth oth':=by
 have hlt:a.toNat<m.pool.length:=by omega
 have hg:m.pool[a.toNat]?=some (m.pool.getD a.toNat default):=by rw[qAD,qAB hlt];rfl
 have hth:=hi.thing _ (qAK hg)
 generalize m.pool.getD a.toNat default=c at hg hth ⊢
 have e:a=(a.toNat:Int):=(qAw ha).symm
 have hpl:m.pool.length<=1048576:=by have:=hi.pool;omega
 have g2:=zHm (s:=s) oth hl.1
 obtain⟨t,x,w⟩:=c
 cases t with
 |true =>
  obtain⟨oth',hR⟩:=zUw (s:=fwd s) (zGZ h) hw0 hw hl oth w (hth.1 rfl) 0 (qAX _)
  have hP:=zQx m (rawS (fwd s) oth) _ hg hpl hR
  rw[<-e]at hP
  exact⟨oth',zQM m (rawS s oth) _ hc hP⟩
 |false =>
  refine⟨oth,?_⟩
  show zCA m s ((fwd s).push (numR x)) oth oth
  unfold zCA St.push
  split
  ·rename_i hh
   have hP:=zQy m (rawS (fwd s) oth) hg hpl g2 (by rw[zBM];exact of_decide_eq_true hh)
   rw[<-e]at hP
   exact zQM m (rawS s oth) _ hc hP
  ·rename_i hh
   have hh':(fwd s).high 1=false:=by simpa using hh
   have hP:=zTd m (rawS (fwd s) oth) hg hpl g2 (by rw[zBM];exact of_decide_eq_false hh')
   rw[<-e]at hP
   rw[zNt]
   exact zQM m (rawS s oth) _ hc hP
end Go.Proofs.YtcagoomibpcdlaaGreatDoor
namespace Go.Proofs.YtcagoomibpcdlaaGreatDoor
open Go.Sx Go.Vm
variable {m:Img}{A:Nat->Option VS}
theorem zPI(shw:Int->List UInt8){s:St}(h:Lay m A s)(hw0:0<=s.words)(hw:s.words<=1048576)(hl:s.stack.length<=4000/\s.calls.length<=200000/\s.tries.length<=200000)(oth:List Nat)(h2:2<=s.stack.length)(hv1:Val s (s.top 1))(hv0:Val s (s.top 0))(hlo:zIR s): ∃oth',zG9 m s (s.prim shw 7) oth oth' 7:=by
 have htk:takes 7=2:=rfl
 have ht:=zKZ oth h2 (by omega)
 cases ho1:s.of (s.top 1) 4 with
 |false =>
  refine⟨oth,zGt m _ _ ?_⟩
  rw[show s.prim shw 7=s.stop 4 by simp[St.prim,htk,ho1]]
  exact zQB m (rawS s oth) ht (of_f h hw oth hv1 ho1)
 |true =>
  obtain⟨i,e1,hk1⟩:=of_b ho1
  have hB1:=zIX h hw oth (hv1.ly i e1)
  have hX1:=zP9 h hw oth (hv1.ly i e1) hk1
  rw[hk1]at hB1
  cases ho0:s.of (s.top 0) 4 with
  |false =>
   refine⟨oth,zGt m _ _ ?_⟩
   rw[show s.prim shw 7=s.stop 4 by simp[St.prim,htk,ho0]]
   rw[e1]at ht
   exact zQC m (rawS s oth) ht hB1 (of_f h hw oth hv0 ho0)
  |true =>
   obtain⟨j,e0,hk0⟩:=of_b ho0
   have hB0:=zIX h hw oth (hv0.ly j e0)
   have hX0:=zP9 h hw oth (hv0.ly j e0) hk0
   rw[hk0]at hB0
   rw[e1,e0]at ht
   have l1:=((h.objs i (h.lt i (hv1.ly i e1))).txt hk1).2.2
   have l0:=((h.objs j (h.lt j (hv0.ly j e0))).txt hk0).2.2
   have eo1:s.obj (s.top 1)=zAV s.all i:=by rw[e1];rfl
   have eo0:s.obj (s.top 0)=zAV s.all j:=by rw[e0];rfl
   by_cases hg:((zAV s.all i).text.length:Int)+(zAV s.all j).text.length>200
   ·refine⟨oth,zGt m _ _ ?_⟩
    rw[show s.prim shw 7=s.raise (-3) by
     simp only[St.prim,htk,ho1,ho0,eo1,eo0,show Int.toNat 2-1=1 from rfl]
     rw[if_neg (by decide),if_pos trivial,if_neg (by decide),if_pos (by rw[qAE];omega)]]
    exact zO2 m (rawS s oth) _ ht hB1 hB0 hX1 hX0 l1 l0 hg (zKl m s oth (-3) hlo (by omega) (by omega) (by omega))
   ·obtain⟨oth',hR⟩:=zUw h hw0 hw hl oth ((zAV s.all i).text++(zAV s.all j).text) (by rw[qAE];omega) 2 h2
    refine⟨oth',zGt m _ _ ?_⟩
    rw[show s.prim shw 7=s.block (zBy ((zAV s.all i).text++(zAV s.all j).text)) 2 by
     simp only[St.prim,htk,ho1,ho0,eo1,eo0,show Int.toNat 2-1=1 from rfl]
     rw[if_neg (by decide),if_pos trivial,if_neg (by decide),if_neg (by rw[qAE];omega)]]
    exact zS1 m (rawS s oth) _ ht hB1 hB0 hX1 hX0 l1 l0 hg hR
end Go.Proofs.YtcagoomibpcdlaaGreatDoor
namespace Go.Proofs.YtcagoomibpcdlaaGreatDoor
open Go.Sx Go.Vm
variable {m:Img}{A:Nat->Option VS}
theorem zTP(s:St)(oth:List Nat){i:Nat}{b:Rf}(hn:s.ly.Nodup)(hi:i∈s.ly)(hlt:i<s.all.length)(hk:(zAV s.all i).kind=3)(hp:(zAV s.all i).parts.length=1):
  rawS { s with all:=s.all.set i ((zAV s.all i).with0 b) } oth = { rawS s oth with now:=(zBs s.all s.ly).set (offL s.all s.ly i+1+0) (wdN s.all s.ly b) }:=by
 have hw:=zLJ (zKf hlt b) s.ly
 have hb:=zPh (zKf hlt b) s.ly s.words.toNat
 have e:∀c:Cl,rcl (s.all.set i ((zAV s.all i).with0 b)) s.ly c=rcl s.all s.ly c:=fun c=>by unfold rcl;rw[hw]
 have e1:rcl (s.all.set i ((zAV s.all i).with0 b)) s.ly=rcl s.all s.ly:=funext e
 have e2:rty (s.all.set i ((zAV s.all i).with0 b)) s.ly=rty s.all s.ly:=funext fun t=>by unfold rty;rw[e]
 unfold rawS
 dsimp only
 rw[zP0 hn hi hlt hk hp,hb,hw,e1,e2]
theorem zPD(shw:Int->List UInt8){s:St}(h:Lay m A s)(hw:s.words<=1048576)(oth:List Nat)(h2:2<=s.stack.length)(hl:s.stack.length<=1048576)(hv1:Val s (s.top 1))(hv0:Val s (s.top 0)): zG9 m s (s.prim shw 11) oth oth 11:=by
 have ha:=zMR oth (n:=2) h2 (by omega) hl
 have ht:takes 11=2:=rfl
 refine zLi m _ _ ?_
 cases hof:s.of (s.top 1) 3 with
 |false =>
  rw[show s.prim shw 11=s.stop 4 by
   simp only[St.prim,ht,show Int.toNat 2-1=1 from rfl]
   rw[if_neg (by decide),if_neg (by decide),if_neg (by decide),if_neg (by decide),if_neg (by decide),if_neg (by decide),if_pos (by decide)]
   cases e:s.top 1 with
   |n v=>rfl
   |b i =>
    rw[e]at hof
    have:¬(s.all.getD i default).kind=3:=of_decide_eq_false hof
    dsimp only
    rw[if_pos this]]
  exact zPM m (rawS s oth) ha (of_f h hw oth hv1 hof)
 |true =>
  obtain⟨i,e,hk⟩:=of_b hof
  have hi:=hv1.ly i e
  have hlt:=h.lt i hi
  have ho:=h.objs i hlt
  have hB:=zIX h hw oth hi
  rw[hk]at hB
  rw[show 2-1=1 from rfl,e]at ha
  have hc:=ho.cell hk
  have hz:=zKs (o:=zAV s.all i) (by omega)
  have hx:∃x,(zBs s.all s.ly)[offL s.all s.ly i+1+0]?=some x:=by
   rw[zKv hi (k:=0) (by omega)]
   exact⟨_,qAB (by rw[zLC];omega)⟩
  obtain⟨x,hx⟩:=hx
  have hP:=zPv s.words (zBs s.all s.ly) oth (begL s.all s.ly s.words.toNat) (zHi hi) (zH6 ho) (zHH h hw) (zJg hi) (k:=0) (by omega) (by omega) hx (zP8 h hw oth hv0)
  have hS:=zQ2 m (rawS s oth) ha (zFB s oth (k:=0) (by omega)) hB hP
  rw[show s.prim shw 11=({ s with all:=s.all.set i ((zAV s.all i).with0 (s.top 0)) }:St).numI 2 0 by
   simp only[St.prim,ht,show Int.toNat 2-1=1 from rfl]
   rw[if_neg (by decide),if_neg (by decide),if_neg (by decide),if_neg (by decide),if_neg (by decide),if_neg (by decide),if_pos (by decide)]
   rw[e]
   dsimp only
   rw[if_neg (by
    have:(s.all.getD i default).kind=3:=hk
    omega)]
   rfl]
  rw[zIk,zTP s oth h.nodup hi hlt hk hc]
  exact hS
end Go.Proofs.YtcagoomibpcdlaaGreatDoor
namespace Go.Proofs.YtcagoomibpcdlaaGreatDoor
open Go.Sx Go.Vm
variable {con:List UInt8->Bool}{m:Img}{A:Nat->Option VS}
theorem zTn{k:Int}(h:zKu m k=true)(hk:0<=k): k<m.pool.length:=by
 unfold zKu at h
 cases hp:m.pool[k.toNat]? with
 |none=>rw[hp]at h;cases h
 |some c=>have:=(qAA.1 hp).1;omega
theorem zWp{s:St}(h:MOk con m A s): zIR s:=fun t ht=>by
 obtain⟨_,h1,h2,h3,h4⟩:=h.fr.raise t ht
 exact⟨⟨h1,h2⟩,h3,h4⟩
theorem zYr{s:St}{i:Ins}{v:VS}{ts0 ts1:List Ty}(nw:Now con m A s i v ts0 ts1)(hi:ImgOk m)(oth:List Nat): InsAt m (rawS s oth) ⟨i.op,i.a,i.b⟩ :=
 ⟨nw.here.at_,nw.at_,by have:=hi.code;omega⟩
theorem zYf{s:St}(h:Lay m A s)(hw0:0<=s.words)(hw:s.words<=1048576)(hl:s.stack.length<=4000/\s.calls.length<=200000/\s.tries.length<=200000)(ho:s.out.length<=1048576)(oth:List Nat)(hlo:zIR s){p:Int}(hp0:0<=p)(hp:p<=13)(hn:takes p<=s.stack.length): ∃oth',zG9 m s (s.prim shw p) oth oth' p:=by
 have hv:∀k,k<s.stack.length->Val s (s.top k):=fun k hk=>h.stack (zEe hk)
 by_cases h7:p<7
 ·have ht:takes p=2:=by unfold takes;rw[if_neg (by omega),if_pos (by omega)]
  have h2:2<=s.stack.length:=by omega
  exact⟨oth,zQm m _ s oth ⟨hp0,h7⟩ h2 (by omega) (zQd h hw (hv 1 (by omega))) (zQd h hw (hv 0 (by omega))) hlo (by omega) (by omega)⟩
 obtain rfl|rfl|rfl|rfl|rfl|rfl|rfl:p=7\/p=8\/p=9\/p=10\/p=11\/p=12\/p=13:=by omega
 ·have h2:2<=s.stack.length:=by have:takes 7=2:=rfl;omega
  exact zPI _ h hw0 hw hl oth h2 (hv 1 (by omega)) (hv 0 (by omega)) hlo
 ·have h1:1<=s.stack.length:=by have:takes 8=1:=rfl;omega
  exact⟨oth,zPG _ h hw oth h1 (by omega) (hv 0 (by omega))⟩
 ·have h1:1<=s.stack.length:=by have:takes 9=1:=rfl;omega
  exact zPF _ h hw0 hw hl oth h1
 ·have h1:1<=s.stack.length:=by have:takes 10=1:=rfl;omega
  exact⟨oth,zPH _ h hw oth h1 (by omega) (hv 0 (by omega))⟩
 ·have h2:2<=s.stack.length:=by have:takes 11=2:=rfl;omega
  exact⟨oth,zPD _ h hw oth h2 (by omega) (hv 1 (by omega)) (hv 0 (by omega))⟩
 ·have h1:1<=s.stack.length:=by have:takes 12=1:=rfl;omega
  exact⟨oth,zMw m s oth h1 (by omega) (zQd h hw (hv 0 (by omega))) ho⟩
 ·have h1:1<=s.stack.length:=by have:takes 13=1:=rfl;omega
  exact⟨oth,zPE _ h hw oth h1 (by omega) (hv 0 (by omega)) ho⟩
structure Bnd(s:St): Prop where
 w0:0<=s.words
 w1:s.words<=1048576
 tr:s.tries.length<=200000
 out:s.out.length<=1048576
theorem zYF{s:St}(h:MOk con m A s)(hb:Bnd s)(oth:List Nat): ∃oth',zCA m s (Go.Vm.step shw m s) oth oth':=by
 obtain⟨i,v,ts0,ts1,nw⟩:=h.now
 obtain⟨hl,hb0,hf0,hat⟩:=nw.len
 obtain⟨o0,o20,a0,a1,b0,b1,hgo⟩:=nw.ins
 obtain⟨hw0,hw,htr,hou⟩:=hb
 have hi:=zNG nw.at_
 have hc:=zYr nw h.img oth
 have hlay:=h.lay
 have h4:=h.high
 have hdp:=h.deep
 have hlo:=zWp h
 have hlen:s.stack.length<=4000/\s.calls.length<=200000/\s.tries.length<=200000:=⟨h4,by omega,htr⟩
 have hv:∀k,k<s.stack.length->Val s (s.top k):=fun k hk=>hlay.stack (zEe hk)
 have hR:∀k,k<s.stack.length->RfOk s (s.top k):=fun k hk=>zQd hlay hw (hv k hk)
 unfold Go.Vm.step
 dsimp only
 rw[hi]
 have hfl:=nw.floor
 have hhd:=nw.holds
 obtain⟨op,a,b⟩:=i
 dsimp only at *
 by_cases c0:op=0
 ·subst c0;rw[if_pos rfl];exact⟨oth,st_0 m s oth hc⟩
 rw[if_neg c0]
 by_cases c1:op=1
 ·subst c1;rw[if_pos rfl]
  have e:eff con m ⟨1,a,b⟩ v=⟨0,1,decide (a<m.pool.length),true,false⟩:=by simp[eff]
  rw[e]at hhd
  simp only[decide_eq_true_eq]at hhd
  exact st_1 hlay h.img hw0 hw hlen oth hc a0 hhd
 rw[if_neg c1]
 by_cases c2:op=2
 ·subst c2;rw[if_pos rfl]
  have e:eff con m ⟨2,a,b⟩ v=⟨0,1,decide (a<v.height),true,false⟩:=by simp[eff]
  rw[e]at hhd
  simp only[decide_eq_true_eq]at hhd
  exact⟨oth,st_2 m s oth hc h4 a0 (by omega)⟩
 rw[if_neg c2]
 by_cases c3:op=3
 ·subst c3;rw[if_pos rfl]
  have e:eff con m ⟨3,a,b⟩ v=⟨0,1,decide (v.of>=0)&&decide (a<v.has),true,false⟩:=by simp[eff]
  rw[e]at hhd
  simp only[qAZ,decide_eq_true_eq]at hhd
  rcases nw.here.kind with hk|⟨hk,j,f1,f2,f3,f4,f5⟩
  ·omega
  ·exact⟨oth,st_3 hlay hw oth hc h4 f1 f3 a0 (by omega)⟩
 rw[if_neg c3]
 by_cases c4:op=4
 ·subst c4;rw[if_pos rfl];exact⟨oth,st_4 m s oth hc h4⟩
 rw[if_neg c4]
 by_cases c5:op=5
 ·subst c5;rw[if_pos rfl]
  have e:eff con m ⟨5,a,b⟩ v=⟨a,0,true,true,false⟩:=by simp[eff]
  rw[e]at hfl
  change zA6 v<=v.height-a at hfl
  exact⟨oth,st_5 m s oth hc h4 a0 (by omega)⟩
 rw[if_neg c5]
 by_cases c6:op=6
 ·subst c6;rw[if_pos rfl]
  have e:eff con m ⟨6,a,b⟩ v=⟨a+1,1,true,true,false⟩:=by simp[eff]
  rw[e]at hfl
  change zA6 v<=v.height-(a+1)at hfl
  exact⟨oth,st_6 m s oth hc h4 a0 (by omega)⟩
 rw[if_neg c6]
 by_cases c7:op=7
 ·subst c7;rw[if_pos rfl]
  have e:eff con m ⟨7,a,b⟩ v=⟨2,1,true,true,false⟩:=by simp[eff]
  rw[e]at hfl
  change zA6 v<=v.height-2 at hfl
  exact⟨oth,st_7 hlay hw oth hc (by omega) h4 hdp ⟨hb0,by omega⟩ (hv 1 (by omega))⟩
 rw[if_neg c7]
 by_cases c8:op=8
 ·subst c8;rw[if_pos rfl]
  have e:eff con m ⟨8,a,b⟩ v=⟨2,0,decide (v.of>=0)&&v.tries.isEmpty,false,false⟩:=by simp[eff]
  rw[e]at hfl
  change zA6 v<=v.height-2 at hfl
  exact⟨oth,st_8 hlay hw oth hc (by omega) h4 hdp ⟨hb0,by omega⟩ (hv 1 (by omega))⟩
 rw[if_neg c8]
 by_cases c9:op=9
 ·subst c9;rw[if_pos rfl]
  have e:eff con m ⟨9,a,b⟩ v=⟨1,0,decide (v.of>=0)&&v.tries.isEmpty,false,false⟩:=by simp[eff]
  rw[e]at hfl hhd
  change zA6 v<=v.height-1 at hfl
  simp only[qAZ,decide_eq_true_eq]at hhd
  obtain⟨cs,c',hcs,_⟩:=nw.here.back hhd.1
  exact⟨oth,st_9 m s oth hc h4 (by omega) (c:=c') (by rw[hcs];simp) (by omega) ⟨hb0,by omega⟩⟩
 rw[if_neg c9]
 by_cases c10:op=10
 ·subst c10;rw[if_pos rfl]
  have e:eff con m ⟨10,a,b⟩ v=⟨b,1,zIW con m a&&decide (b<=8),true,false⟩:=by simp[eff]
  rw[e]at hfl
  change zA6 v<=v.height-b at hfl
  exact zZn hlay hw0 hw hlen oth hc ⟨a0,a1⟩ b0 (by omega)
 rw[if_neg c10]
 by_cases c18:op=18
 ·subst c18;rw[if_pos rfl]
  have e:eff con m ⟨18,a,b⟩ v=⟨b,1,true,true,false⟩:=by simp[eff]
  rw[e]at hfl
  change zA6 v<=v.height-b at hfl
  exact zZg hlay hw0 hw hlen oth hc ⟨a0,a1⟩ b0 (by omega)
 rw[if_neg c18]
 by_cases c12:op=12
 ·subst c12;rw[if_pos rfl]
  have e:eff con m ⟨12,a,b⟩ v=⟨takes a,1,decide (a<=13),true,false⟩:=by simp[eff]
  rw[e]at hhd hfl
  simp only[decide_eq_true_eq]at hhd
  change zA6 v<=v.height-takes a at hfl
  obtain⟨oth',hP⟩:=zYf (s:=fwd s) (zGZ hlay) hw0 hw hlen hou oth hlo a0 hhd (by show takes a<=(s.stack.length:Int);omega)
  exact⟨oth',zWB m (rawS s oth) _ hc hP⟩
 rw[if_neg c12]
 by_cases c17:op=17
 ·subst c17;rw[if_pos rfl];exact⟨oth,zZh m s oth hc (by omega)⟩
 rw[if_neg c17]
 by_cases c14:op=14
 ·subst c14;rw[if_pos rfl]
  have e:eff con m ⟨14,a,b⟩ v=⟨0,0, !v.tries.isEmpty,true,false⟩:=by simp[eff]
  rw[e]at hhd
  have hne:1<=v.tries.length:=by
   cases ht:v.tries with
   |nil=>rw[ht]at hhd;cases hhd
   |cons _ _=>simp
  have:=nw.here.seg.1
  have:=nw.here.app
  exact⟨oth,zZk m s oth hc (by rw[this,qAE];omega) (by omega)⟩
 rw[if_neg c14]
 by_cases c15:op=15
 ·subst c15;rw[if_pos rfl];exact⟨oth,zZj m s oth hc⟩
 rw[if_neg c15]
 by_cases c11:op=11
 ·subst c11;rw[if_pos rfl]
  have e:eff con m ⟨11,a,b⟩ v=⟨1,1,decide (a<=7),true,false⟩:=by simp[eff]
  rw[e]at hfl
  change zA6 v<=v.height-1 at hfl
  exact⟨oth,zZm hlay hw oth hc a0 (by omega) h4 (hv 0 (by omega))⟩
 rw[if_neg c11]
 by_cases c19:op=19
 ·subst c19;rw[if_pos rfl]
  have e:eff con m ⟨19,a,b⟩ v=⟨0,0,decide (v.height>=1)&&zIW con m b,true,true⟩:=by simp[eff]
  rw[e]at hhd
  simp only[qAZ,decide_eq_true_eq]at hhd
  exact⟨oth,zZf hlay hw oth hc (by omega) h4 (hv 0 (by omega))⟩
 rw[if_neg c19]
 have hone:1<=s.stack.length:=by
  by_cases c13:op=13
  ·have e:eff con m ⟨op,a,b⟩ v=⟨1,0,true,false,false⟩:=by simp[eff,c13]
   rw[e]at hfl
   change zA6 v<=v.height-1 at hfl
   omega
  by_cases c16:op=16
  ·have e:eff con m ⟨op,a,b⟩ v=⟨1,0,true,true,true⟩:=by simp[eff,c16]
   rw[e]at hfl
   change zA6 v<=v.height-1 at hfl
   omega
  have e:eff con m ⟨op,a,b⟩ v=⟨0,0,decide (v.height>=1)&&zKu m b,true,true⟩:=by
   unfold eff
   simp only[c0,c1,c2,c3,c4,c5,c6,c7,c8,c9,c10,c11,c12,c13,c14,c15,c16,c17,c18,c19,if_false]
  rw[e]at hhd
  simp only[qAZ,decide_eq_true_eq]at hhd
  omega
 have hR0:=hR 0 (by omega)
 have et:(s.goto (s.c.at_+1)).top 0=s.top 0:=rfl
 rw[et]
 have hop:op=13\/op=16\/op=20:=by omega
 cases hr:s.top 0 with
 |b j =>
  dsimp only
  rcases hop with rfl|rfl|rfl
  ·exact⟨oth,zYR m s oth hc h4 hone hr hR0⟩
  ·exact⟨oth,zYQ m s oth hc h4 hone hr hR0⟩
  ·exact⟨oth,zYP m s oth hc h4 hone hr hR0⟩
 |n x =>
  dsimp only
  rcases hop with rfl|rfl|rfl
  ·rw[if_pos rfl];exact⟨oth,zZl m s oth hc h4 hone hr hR0 hlo (by omega) (by omega)⟩
  ·rw[if_neg (by decide),if_pos rfl];exact⟨oth,zZi m s oth hc h4 hone hr hR0⟩
  ·rw[if_neg (by decide),if_neg (by decide)]
   have e:eff con m ⟨20,a,b⟩ v=⟨0,0,decide (v.height>=1)&&zKu m b,true,true⟩:=by simp[eff]
   rw[e]at hhd
   simp only[qAZ,decide_eq_true_eq]at hhd
   exact⟨oth,zZe m s oth hc h4 hone hr hR0 b0 (zTn hhd.2 b0)⟩
end Go.Proofs.YtcagoomibpcdlaaGreatDoor
