import Derived.Test.YtcagoomibpcdlaaGreatDoorMCB
import Derived.Test.YtcagoomibpcdlaaGreatDoorMCC
import Derived.Test.YtcagoomibpcdlaaGreatDoorMCD
set_option maxHeartbeats 16000000
namespace Go.Proofs.YtcagoomibpcdlaaGreatDoor
open Go.Sx Go.Vm
open _root_.Go.Proofs.Tryz
section
abbrev zCR(m:Img)(s s':St)(oth oth':List Nat): Prop:=zAW prog 22 [.ptr 0 0] (MX m (rawS s oth)) .top (MX m (rawS s' oth'))
abbrev fwd(s:St): St:=s.goto (s.c.at_+1)
theorem zJT{s:St}(oth:List Nat)(hl:s.stack.length<=4000): (rawS (fwd s) oth).stk.length<=1048576:=by rw[zBd];show s.stack.length<=_;omega
theorem zUx{s:St}(m:Img)(oth:List Nat)(hl:s.stack.length<=4000)(h:(fwd s).high 1=true): zAW prog 39 [.ptr 0 0,.d (i64 1)] (MX m (rawS (fwd s) oth)) (.d (bl true)) (MX m (rawS ((fwd s).stop 6) oth)):=by
 have h1:(((rawS (fwd s) oth).stk.length:Nat):Int)+1>4000:=by rw[zBd];exact of_decide_eq_true h
 exact zKZ m (rawS (fwd s) oth) (k:=1) (zJT oth hl) (by omega) h1
theorem zUy{s:St}(m:Img)(oth:List Nat)(hl:s.stack.length<=4000)(h:(fwd s).high 1=false): zAp prog 39 [.ptr 0 0,.d (i64 1)] (MX m (rawS (fwd s) oth)) (bl false):=by
 have h1:¬(((rawS (fwd s) oth).stk.length:Nat):Int)+1>4000:=by rw[zBd];exact of_decide_eq_false h
 exact zJ0 m (rawS (fwd s) oth) (k:=1) (zJT oth hl) (by omega) h1
theorem zMu{s:St}(m:Img)(oth:List Nat)(hl:s.stack.length<=4000){k:Nat}(hk:k<s.stack.length): zAp prog 24 [.ptr 0 0,.d (i64 (k:Int))] (MX m (rawS (fwd s) oth)) (w64 (wdN s.all s.ly (s.top k))) :=
 zCH m (rawS (fwd s) oth) (k:=k) (by rw[zBd];exact hk) (zGK (fwd s) oth hk) (zJT oth hl)
theorem zaa{s:St}(m:Img)(oth:List Nat)(hl:s.stack.length<=4000)(r:Rf): zAW prog 40 [.ptr 0 0,.d (w64 (wdN s.all s.ly r))] (MX m (rawS (fwd s) oth)) .top (MX m (rawS ((fwd s).instead 0 r) oth)):=by
 rw[zQr]
 exact zIw m (rawS (fwd s) oth) (zJT oth hl)
theorem st_0(m:Img)(s:St)(oth:List Nat){a b:Int}(hc:InsAt m (rawS s oth) ⟨0,a,b⟩): zCR m s ((fwd s).stop 1) oth oth :=
 zcc m (rawS s oth) _ hc (zFv m (rawS (fwd s) oth) 1)
theorem st_2(m:Img)(s:St)(oth:List Nat){a b:Int}(hc:InsAt m (rawS s oth) ⟨2,a,b⟩)(hl:s.stack.length<=4000)(ha:0<=a)(hk:a<s.stack.length): zCR m s ((fwd s).push ((fwd s).top a.toNat)) oth oth:=by
 unfold zCR St.push
 have e:a=(a.toNat:Int):=(qA0 ha).symm
 split
 ·rename_i h;exact zZ3 m (rawS s oth) _ hc (zUx m oth hl h)
 ·rename_i h
  have hT:=zMu (s:=s) m oth hl (k:=a.toNat) (by omega)
  rw[<-e]at hT
  exact zcb m (rawS s oth) _ hc (zUy m oth hl (by simpa using h)) hT (zaa m oth hl _)
theorem st_4(m:Img)(s:St)(oth:List Nat){a b:Int}(hc:InsAt m (rawS s oth) ⟨4,a,b⟩)(hl:s.stack.length<=4000): zCR m s ((fwd s).push (fwd s).c.fun_) oth oth:=by
 unfold zCR St.push
 split
 ·rename_i h;exact zZ1 m (rawS s oth) _ hc (zUx m oth hl h)
 ·rename_i h
  exact zcZ m (rawS s oth) _ hc (zUy m oth hl (by simpa using h)) (zaa m oth hl _)
theorem st_5(m:Img)(s:St)(oth:List Nat){a b:Int}(hc:InsAt m (rawS s oth) ⟨5,a,b⟩)(hl:s.stack.length<=4000)(ha:0<=a)(hk:a<=s.stack.length): zCR m s { fwd s with stack:=(fwd s).stack.take ((fwd s).stack.length-a.toNat) } oth oth:=by
 unfold zCR
 have e:a=(a.toNat:Int):=(qA0 ha).symm
 have hR:=zKP m (rawS (fwd s) oth) (n:=a.toNat) (zJT oth hl) (by rw[zBd];show _<=s.stack.length;omega)
 rw[<-e]at hR
 rw[zQq]
 exact zcY m (rawS s oth) _ hc hR
theorem zeQ(m:Img)(s:St)(oth:List Nat){a b:Int}(hc:InsAt m (rawS s oth) ⟨15,a,b⟩): zCR m s ((fwd s).goto a) oth oth:=zZ9 m (rawS s oth) hc
theorem zeO(m:Img)(s:St)(oth:List Nat){a b:Int}(hc:InsAt m (rawS s oth) ⟨17,a,b⟩)(h:s.tries.length<=1048576): zCR m s { fwd s with tries:=(fwd s).tries++[⟨{ (fwd s).c with at_:=a },(fwd s).stack.length,(fwd s).calls.length⟩] } oth oth:=by
 unfold zCR
 rw[zaP]
 exact zZ7 m (rawS s oth) hc (by rw[zLH];exact h)
theorem zeR(m:Img)(s:St)(oth:List Nat){a b:Int}(hc:InsAt m (rawS s oth) ⟨14,a,b⟩)(h1:1<=s.tries.length)(h:s.tries.length<=1048576): zCR m s { fwd s with tries:=(fwd s).tries.dropLast } oth oth:=by
 unfold zCR
 rw[zaQ]
 exact zaA m (rawS s oth) hc (by rw[zLH];exact h1) (by rw[zLH];exact h)
def zKF(s:St): Prop:=∀t,s.tries.getLast? = some t->(0<=t.height/\t.height<=s.stack.length)/\(0<=t.calls/\t.calls<=s.calls.length)
theorem zM2(m:Img)(s:St)(oth:List Nat)(n:Int)(ht:zKF s)(hl:s.stack.length<=1048576)(hl2:s.calls.length<=1048576)(hl3:s.tries.length<=1048576):
  zAW prog 50 [.ptr 0 0,.d (i64 n)] (MX m (rawS s oth)) .top (MX m (rawS (s.raise n) oth)):=by
 cases h:s.tries.getLast? with
 |none =>
  have h0:s.tries=[]:=qBa.1 h
  rw[zOE s n oth h0]
  exact zXI m (rawS s oth) n (by show s.tries.map _=[];rw[h0];rfl)
 |some t =>
  obtain⟨h1,h2⟩:=ht t h
  rw[zT3 s n oth h]
  exact zT5 m (rawS s oth) n (zXF s oth h) (by rw[zBd];exact h1) (by rw[zIv];exact h2) (by rw[zBd];exact hl) (by rw[zIv];exact hl2) (by rw[zLH];exact hl3)
def RfOk(s:St): Rf->Prop
 | .n v=>Wn v=v
 | .b i=>wdN s.all s.ly (.b i)<18446744073709551616
theorem st_6(m:Img)(s:St)(oth:List Nat){a b:Int}(hc:InsAt m (rawS s oth) ⟨6,a,b⟩)(hl:s.stack.length<=4000)(ha:0<=a)(hk:a<s.stack.length): zCR m s ((fwd s).instead (a.toNat+1) ((fwd s).top 0)) oth oth:=by
 unfold zCR
 have e:a+1=((a.toNat+1:Nat):Int):=by omega
 have hT:=zMu (s:=s) m oth hl (k:=0) (by omega)
 have hB:=zGA m (rawS (fwd s) oth) (n:=a.toNat+1) (w:=wdN s.all s.ly (s.top 0)) (zJT oth hl) (by rw[zBd];show _<=s.stack.length;omega)
 rw[<-e]at hB
 rw[zFG]
 exact zcX m (rawS s oth) _ hc (by omega) hT hB
theorem zcg(m:Img)(s:St)(oth:List Nat){a b:Int}{i:Nat}(hc:InsAt m (rawS s oth) ⟨13,a,b⟩)(hl:s.stack.length<=4000)(hk:1<=s.stack.length)(hr:s.top 0=.b i)(ho:RfOk s (s.top 0)): zCR m s ((fwd s).stop 4) oth oth:=by
 rw[hr]at ho
 have hT:=zMu (s:=s) m oth hl (k:=0) (by omega)
 rw[hr]at hT
 exact zWs m (rawS s oth) _ hc hT (zG9 m (rawS (fwd s) oth) (zI9 s.all s.ly ho))
theorem zeS(m:Img)(s:St)(oth:List Nat){a b x:Int}(hc:InsAt m (rawS s oth) ⟨13,a,b⟩)(hl:s.stack.length<=4000)(hk:1<=s.stack.length)(hr:s.top 0=.n x)(ho:RfOk s (s.top 0))(ht:zKF s)(hl2:s.calls.length<=1048576)(hl3:s.tries.length<=1048576): zCR m s ((fwd s).raise x) oth oth:=by
 rw[hr]at ho
 have hT:=zMu (s:=s) m oth hl (k:=0) (by omega)
 rw[hr]at hT
 exact zaB m (rawS s oth) _ hc hT (zFH m (rawS (fwd s) oth) (zIA s.all s.ly ho)) (zM2 m (fwd s) oth x ht (by show s.stack.length<=_;omega) hl2 hl3)
theorem zcf(m:Img)(s:St)(oth:List Nat){a b:Int}{i:Nat}(hc:InsAt m (rawS s oth) ⟨16,a,b⟩)(hl:s.stack.length<=4000)(hk:1<=s.stack.length)(hr:s.top 0=.b i)(ho:RfOk s (s.top 0)): zCR m s ((fwd s).stop 4) oth oth:=by
 rw[hr]at ho
 have hT:=zMu (s:=s) m oth hl (k:=0) (by omega)
 rw[hr]at hT
 exact zWr m (rawS s oth) _ hc hT (zG9 m (rawS (fwd s) oth) (zI9 s.all s.ly ho))
theorem zVA(m:Img)(s:St)(oth:List Nat)(a:Int)(p:Prop)[Decidable p]: zAW prog 51 [.ptr 0 0,.d (i64 a),.d (bl (decide p))] (MX m (rawS s oth)) .top (MX m (rawS (if p then s.goto a else s) oth)):=by
 by_cases h:p
 ·rw[decide_eq_true h,if_pos h];exact zX0 m (rawS s oth) a
 ·rw[decide_eq_false h,if_neg h];exact zbR m (rawS s oth) a
theorem zeP(m:Img)(s:St)(oth:List Nat){a b x:Int}(hc:InsAt m (rawS s oth) ⟨16,a,b⟩)(hl:s.stack.length<=4000)(hk:1<=s.stack.length)(hr:s.top 0=.n x)(ho:RfOk s (s.top 0)):
  zCR m s (if x=0 then({ fwd s with stack:=(fwd s).stack.take ((fwd s).stack.length-1) }:St).goto a else { fwd s with stack:=(fwd s).stack.take ((fwd s).stack.length-1) }) oth oth:=by
 rw[hr]at ho
 have hT:=zMu (s:=s) m oth hl (k:=0) (by omega)
 rw[hr]at hT
 have hK:=zKP m (rawS (fwd s) oth) (n:=1) (zJT oth hl) (by rw[zBd];exact hk)
 rw[<-zQq]at hK
 exact zZ8 m (rawS s oth) _ hc hT (zFH m (rawS (fwd s) oth) (zIA s.all s.ly ho)) hK (zVA m _ oth a (x=0))
theorem zce(m:Img)(s:St)(oth:List Nat){a b:Int}{i:Nat}(hc:InsAt m (rawS s oth) ⟨20,a,b⟩)(hl:s.stack.length<=4000)(hk:1<=s.stack.length)(hr:s.top 0=.b i)(ho:RfOk s (s.top 0)): zCR m s ((fwd s).stop 4) oth oth:=by
 rw[hr]at ho
 have hT:=zMu (s:=s) m oth hl (k:=0) (by omega)
 rw[hr]at hT
 exact zWp m (rawS s oth) _ hc hT (zG9 m (rawS (fwd s) oth) (zI9 s.all s.ly ho))
theorem zeL(m:Img)(s:St)(oth:List Nat){a b x:Int}(hc:InsAt m (rawS s oth) ⟨20,a,b⟩)(hl:s.stack.length<=4000)(hk:1<=s.stack.length)(hr:s.top 0=.n x)(ho:RfOk s (s.top 0))(hb:0<=b)(hp:b<m.pool.length):
  zCR m s (if x≠(m.pool.getD b.toNat default).num then(fwd s).goto a else fwd s) oth oth:=by
 rw[hr]at ho
 have hT:=zMu (s:=s) m oth hl (k:=0) (by omega)
 rw[hr]at hT
 have hlt:b.toNat<m.pool.length:=by omega
 have hg:m.pool[b.toNat]?=some (m.pool.getD b.toNat default):=by rw[qAD,qAB hlt];rfl
 exact zZ4 m (rawS s oth) _ hc hT (zFH m (rawS (fwd s) oth) (zIA s.all s.ly ho)) hb hg (zVA m (fwd s) oth a (x≠(m.pool.getD b.toNat default).num))
theorem st_9(m:Img)(s:St)(oth:List Nat){a b:Int}{c:Cl}(hc:InsAt m (rawS s oth) ⟨9,a,b⟩)(hl:s.stack.length<=4000)(hk:1<=s.stack.length)(hcl:s.calls.getLast? = some c)(hl2:s.calls.length<=1048576)(hb:0<=s.c.base/\s.c.base<=s.stack.length):
  zCR m s { fwd s with stack:=(fwd s).stack.take (fwd s).c.base.toNat++[(fwd s).top 0],c:=((fwd s).calls.getLast?).getD default,calls:=(fwd s).calls.dropLast } oth oth:=by
 unfold zCR
 rw[zXH (fwd s) oth hcl]
 have hw:(rawS (fwd s) oth).stk.getLast? = some (wdN s.all s.ly (s.top 0)):=by
  have:=zGK (fwd s) oth (k:=0) (by exact hk)
  rw[Nat.sub_zero,<-qBG]at this
  exact this
 have hg:(rawS (fwd s) oth).cls.getLast? = some (rcl s.all s.ly c):=by
  show (s.calls.map (rcl s.all s.ly)).getLast? = _
  rw[List.getLast?_map,hcl];rfl
 exact zcU m (rawS s oth) _ hc (zYK m (rawS (fwd s) oth) hg hw (by rw[zBd];exact hb) (zJT oth hl) (by rw[zIv];exact hl2))
theorem Wn_W(n:Int): Wn (W n)=Wn n:=by unfold Wn W;omega
theorem W_of{n:Int}(h:Wn n=n): W n=n:=by unfold Wn at h;unfold W;omega
theorem nW_W(n:Int): nW (W n)=nW n:=by unfold nW numR;rw[Wn_W]
theorem zMt{s:St}(oth:List Nat)(h2:2<=s.stack.length)(hl:s.stack.length<=1048576): Tops (rawS s oth) (wdN s.all s.ly (s.top 1)) (wdN s.all s.ly (s.top 0)) :=
 ⟨by rw[zBd];exact h2,zGK s oth (by omega),zGK s oth (by omega),by rw[zBd];exact hl⟩
theorem zIz(s:St)(oth:List Nat)(x:Int): ({ rawS s oth with stk:=(rawS s oth).stk.take ((rawS s oth).stk.length-2)++[nW x] }:Raw)=rawS (s.numI 2 x) oth:=(zKU s 2 x oth).symm
theorem zdO(m:Img)(s s':St)(oth:List Nat){f:FuncId}{x y:Int}(hb:zAL prog f=true)(h2:2<=s.stack.length)(hl:s.stack.length<=1048576)(h1:s.top 1=.n x)(h0:s.top 0=.n y)(o1:RfOk s (s.top 1))(o0:RfOk s (s.top 0))
  (hF:zAW prog f [.d (i64 x),.d (i64 y),.ptr 9 0] (MXb m (rawS s oth)) .top (MXb m (rawS s' oth))):zAW prog 79 [.ptr 0 0,.clo f [9]] (MXb m (rawS s oth)) .top (MXb m (rawS s' oth)):=by
 have ht:=zMt oth h2 hl
 rw[h1]at ht o1;rw[h0]at ht o0
 exact ints_ok m (rawS s oth) _ hb ht (zIA s.all s.ly o1) (zIA s.all s.ly o0) hF
theorem za7(m:Img)(s:St)(oth:List Nat){f:FuncId}{i:Nat}(h2:2<=s.stack.length)(hl:s.stack.length<=1048576)(h1:s.top 1=.b i)(o1:RfOk s (s.top 1)): zAW prog 79 [.ptr 0 0,.clo f [9]] (MXb m (rawS s oth)) .top (MXb m (rawS (s.stop 4) oth)):=by
 have ht:=zMt oth h2 hl
 rw[h1]at ht o1
 exact zXn m (rawS s oth) ht (zI9 s.all s.ly o1)
theorem za8(m:Img)(s:St)(oth:List Nat){f:FuncId}{x:Int}{i:Nat}(h2:2<=s.stack.length)(hl:s.stack.length<=1048576)(h1:s.top 1=.n x)(h0:s.top 0=.b i)(o1:RfOk s (s.top 1))(o0:RfOk s (s.top 0)): zAW prog 79 [.ptr 0 0,.clo f [9]] (MXb m (rawS s oth)) .top (MXb m (rawS (s.stop 4) oth)):=by
 have ht:=zMt oth h2 hl
 rw[h1]at ht o1;rw[h0]at ht o0
 exact zXo m (rawS s oth) ht (zIA s.all s.ly o1) (zI9 s.all s.ly o0)
theorem zfB(m:Img)(s:St)(oth:List Nat)(x y:Int)(h2:2<=s.stack.length)(hl:s.stack.length<=1048576): zAW prog 80 [.d (i64 x),.d (i64 y),.ptr 9 0] (MXb m (rawS s oth)) .top (MXb m (rawS (s.ints 0 x y) oth)):=by
 have h:=pAdd m (rawS s oth) x y (by rw[zBd];exact hl) (by rw[zBd];exact h2)
 rw[nW_W,zIz]at h
 exact h
theorem zeI(m:Img)(s:St)(oth:List Nat)(x y:Int)(h2:2<=s.stack.length)(hl:s.stack.length<=1048576): zAW prog 83 [.d (i64 x),.d (i64 y),.ptr 9 0] (MXb m (rawS s oth)) .top (MXb m (rawS (s.ints 1 x y) oth)):=by
 have h:=pSub m (rawS s oth) x y (by rw[zBd];exact hl) (by rw[zBd];exact h2)
 rw[nW_W,zIz]at h
 exact h
theorem zel(m:Img)(s:St)(oth:List Nat)(x y:Int)(h2:2<=s.stack.length)(hl:s.stack.length<=1048576): zAW prog 85 [.d (i64 x),.d (i64 y),.ptr 9 0] (MXb m (rawS s oth)) .top (MXb m (rawS (s.ints 2 x y) oth)):=by
 have h:=pMul m (rawS s oth) x y (by rw[zBd];exact hl) (by rw[zBd];exact h2)
 rw[nW_W,zIz]at h
 exact h
theorem eq_m(m:Img)(s:St)(oth:List Nat)(x y:Int)(h2:2<=s.stack.length)(hl:s.stack.length<=1048576): zAW prog 92 [.d (i64 x),.d (i64 y),.ptr 9 0] (MXb m (rawS s oth)) .top (MXb m (rawS (s.ints 5 x y) oth)):=by
 have h:=pEq m (rawS s oth) x y (by rw[zBd];exact hl) (by rw[zBd];exact h2)
 rw[zIz]at h
 rw[show s.ints 5 x y=s.numI 2 (if decide (x=y)=true then 1 else 0) by simp[St.ints]]
 exact h
theorem zdK(m:Img)(s:St)(oth:List Nat)(x y:Int)(h2:2<=s.stack.length)(hl:s.stack.length<=1048576): zAW prog 94 [.d (i64 x),.d (i64 y),.ptr 9 0] (MXb m (rawS s oth)) .top (MXb m (rawS (s.ints 6 x y) oth)):=by
 have h:=zeh m (rawS s oth) x y (by rw[zBd];exact hl) (by rw[zBd];exact h2)
 rw[zIz]at h
 rw[show s.ints 6 x y=s.numI 2 (if decide (x<y)=true then 1 else 0) by simp[St.ints]]
 exact h
theorem ze4(m:Img)(s:St)(oth:List Nat){x y:Int}(hx:Wn x=x)(hy:Wn y=y)(h2:2<=s.stack.length)(hl:s.stack.length<=1048576)(ht:zKF s)(hl2:s.calls.length<=1048576)(hl3:s.tries.length<=1048576): zAW prog 87 [.d (i64 x),.d (i64 y),.ptr 9 0] (MXb m (rawS s oth)) .top (MXb m (rawS (s.ints 3 x y) oth)):=by
 have ex:=W_of hx
 have ey:=W_of hy
 refine pDiv m (rawS s oth) _ x y ?_
 by_cases h0:y=0
 ·rw[show s.ints 3 x y=s.raise (-2) by simp[St.ints,h0],zE0 (by rw[ey];exact h0)]
  exact zQS m (rawS s oth) _ _ (by decide) (zM2 m s oth (-2) ht hl hl2 hl3)
 ·have h:=zQR m (rawS s oth) (divV x y) (by rw[zBd];exact hl) (by rw[zBd];exact h2)
  rw[show s.ints 3 x y=s.numI 2 (x.tdiv y) by simp[St.ints,h0],zE1 (by rw[ey];exact h0)]
  have e:nW (divV x y)=nW (x.tdiv y):=by rw[divV,if_neg (by rw[ey];exact h0),ex,ey,nW_W]
  rw[e,zIz]at h
  exact h
theorem zem(m:Img)(s:St)(oth:List Nat){x y:Int}(hx:Wn x=x)(hy:Wn y=y)(h2:2<=s.stack.length)(hl:s.stack.length<=1048576)(ht:zKF s)(hl2:s.calls.length<=1048576)(hl3:s.tries.length<=1048576): zAW prog 90 [.d (i64 x),.d (i64 y),.ptr 9 0] (MXb m (rawS s oth)) .top (MXb m (rawS (s.ints 4 x y) oth)):=by
 have ex:=W_of hx
 have ey:=W_of hy
 refine pMod m (rawS s oth) _ x y ?_
 by_cases h0:y=0
 ·rw[show s.ints 4 x y=s.raise (-2) by simp[St.ints,h0],zE0 (by rw[ey];exact h0)]
  exact zQS m (rawS s oth) _ _ (by decide) (zM2 m s oth (-2) ht hl hl2 hl3)
 ·have h:=zQR m (rawS s oth) (modV x y) (by rw[zBd];exact hl) (by rw[zBd];exact h2)
  rw[show s.ints 4 x y=s.numI 2 (x.tmod y) by simp[St.ints,h0],zE1 (by rw[ey];exact h0)]
  have e:nW (modV x y)=nW (x.tmod y):=by rw[modV,if_neg (by rw[ey];exact h0),ex,ey]
  rw[e,zIz]at h
  exact h
def two(s:St)(p:Int): St:=match s.top 1,s.top 0 with
 | .n x,.n y=>s.ints p x y
 |_,_=>s.stop 4
theorem zXM(shw:Int->List UInt8)(s:St){p:Int}(h:0<=p/\p<7): s.prim shw p=two s p:=by
 have ht:takes p=2:=by unfold takes;rw[if_neg (by omega),if_pos (by omega)]
 unfold St.prim two
 simp only[ht,if_pos h.2]
 rfl
abbrev zIm(m:Img)(s s':St)(oth oth':List Nat)(p:Int): Prop:=zAW prog 48 [.ptr 0 0,.d (i64 p)] (MX m (rawS s oth)) .top (MX m (rawS s' oth'))
theorem zPa(m:Img)(s:St)(oth:List Nat){p:Int}{f:FuncId}(hb:zAL prog f=true)(h2:2<=s.stack.length)(hl:s.stack.length<=1048576)(o1:RfOk s (s.top 1))(o0:RfOk s (s.top 0))
  (hP:∀r',zAW prog 79 [.ptr 0 0,.clo f [9]] (MXb m (rawS s oth)) .top (MXb m r')->zAW prog 48 [.ptr 0 0,.d (i64 p)] (MX m (rawS s oth)) .top (MX m r'))
  (hO:∀x y,Wn x=x->Wn y=y->zAW prog f [.d (i64 x),.d (i64 y),.ptr 9 0] (MXb m (rawS s oth)) .top (MXb m (rawS (s.ints p x y) oth))):zIm m s (two s p) oth oth p:=by
 refine hP _ ?_
 cases h1:s.top 1 with
 |b i =>
  rw[show two s p=s.stop 4 by unfold two;rw[h1]]
  exact za7 m s oth h2 hl h1 o1
 |n x =>
  cases h0:s.top 0 with
  |b i =>
   rw[show two s p=s.stop 4 by unfold two;rw[h1,h0]]
   exact za8 m s oth h2 hl h1 h0 o1 o0
  |n y =>
   rw[show two s p=s.ints p x y by unfold two;rw[h1,h0]]
   refine zdO m s _ oth hb h2 hl h1 h0 o1 o0 (hO x y ?_ ?_)
   ·rw[h1]at o1;exact o1
   ·rw[h0]at o0;exact o0
theorem zUC(m:Img)(shw:Int->List UInt8)(s:St)(oth:List Nat){p:Int}(h:0<=p/\p<7)(h2:2<=s.stack.length)(hl:s.stack.length<=1048576)(o1:RfOk s (s.top 1))(o0:RfOk s (s.top 0))(ht:zKF s)(hl2:s.calls.length<=1048576)(hl3:s.tries.length<=1048576): zIm m s (s.prim shw p) oth oth p:=by
 rw[zXM shw s h]
 obtain rfl|rfl|rfl|rfl|rfl|rfl|rfl:p=0\/p=1\/p=2\/p=3\/p=4\/p=5\/p=6:=by omega
 ·exact zPa m s oth zOf h2 hl o1 o0 (fun r' h=>zUJ m _ r' h) fun x y _ _=>zfB m s oth x y h2 hl
 ·exact zPa m s oth zOe h2 hl o1 o0 (fun r' h=>zUI m _ r' h) fun x y _ _=>zeI m s oth x y h2 hl
 ·exact zPa m s oth zOd h2 hl o1 o0 (fun r' h=>zUH m _ r' h) fun x y _ _=>zel m s oth x y h2 hl
 ·exact zPa m s oth zOc h2 hl o1 o0 (fun r' h=>zUG m _ r' h) fun x y hx hy=>ze4 m s oth hx hy h2 hl ht hl2 hl3
 ·exact zPa m s oth zOb h2 hl o1 o0 (fun r' h=>zUF m _ r' h) fun x y hx hy=>zem m s oth hx hy h2 hl ht hl2 hl3
 ·exact zPa m s oth zOa h2 hl o1 o0 (fun r' h=>zUE m _ r' h) fun x y _ _=>eq_m m s oth x y h2 hl
 ·exact zPa m s oth zOZ h2 hl o1 o0 (fun r' h=>zUD m _ r' h) fun x y _ _=>zdK m s oth x y h2 hl
theorem zPD{s:St}(oth:List Nat){n:Nat}(h:n<=s.stack.length)(h1:1<=n)(hl:s.stack.length<=1048576): Arg (rawS s oth) n (wdN s.all s.ly (s.top (n-1))) :=
 ⟨by rw[zBd];exact h,h1,zGK s oth (by omega),by rw[zBd];exact hl⟩
theorem zPk(m:Img)(s:St)(oth:List Nat)(h1:1<=s.stack.length)(hl:s.stack.length<=1048576)(o0:RfOk s (s.top 0))(ho:s.out.length<=1048576): zIm m s (s.prim shw 12) oth oth 12:=by
 have ha:=zPD oth (n:=1) h1 (by omega) hl
 have ht:takes 12=1:=rfl
 cases h0:s.top 0 with
 |n x =>
  have hx:Wn x=x:=by rw[h0]at o0;exact o0
  rw[show s.prim shw 12=s.put (shw x) by simp[St.prim,ht,h0]]
  rw[qBM,h0]at ha
  have h:=zUB m (rawS s oth) ha (zIA s.all s.ly hx) ho
  rw[W_of hx]at h
  exact h
 |b i =>
  rw[show s.prim shw 12=s.stop 4 by simp[St.prim,ht,h0]]
  rw[qBM,h0]at ha
  rw[h0]at o0
  exact zOK m (rawS s oth) ha (zI9 s.all s.ly o0)
variable {m:Img}{A:Nat->Option VS}
theorem zJw{o:Thing}(h:Ov m A o): HeadOk o:=by
 refine⟨?_,h.tag,?_⟩
 ·have:=h.kind;omega
 ·unfold Thing.size Thing.need
  have h1:=h.few
  split
  ·rename_i h4;have:=(h.txt h4).2.2;omega
  ·omega
theorem zM9{o:Thing}(h:o.kind≠4): o.size=o.parts.length:=by unfold Thing.size Thing.need;rw[if_neg h];omega
theorem zJQ{s:St}{i:Nat}(hi:i∈s.ly): (zCG s.all s.ly)[offL s.all s.ly i]?=some (zDM (zAc s.all i)):=by
 have:=zPB (all:=s.all) (f:=zDU s.all s.ly) (zDf s.all s.ly) hi (k:=0) (zHP _)
 rw[qA6]at this
 exact this
theorem zNC{s:St}{i k:Nat}(hi:i∈s.ly)(hk:k<(zAc s.all i).size): (zCG s.all s.ly)[offL s.all s.ly i+1+k]?=(zGU s.all s.ly (zAc s.all i))[k]?:=by
 have:=zPB (all:=s.all) (f:=zDU s.all s.ly) (zDf s.all s.ly) hi (k:=k+1) (by have:=zD7 (zAc s.all i);omega)
 rw[show offL s.all s.ly i+1+k=offL s.all s.ly i+(k+1) by omega]
 exact this
theorem zI0{s:St}(h:Lay m A s)(hw:s.words<=1048576): (zCG s.all s.ly).length<=1048576:=by
 rw[zFS]
 have h1:=h.used
 have h2:=h.room
 omega
theorem zKK{s:St}(h:Lay m A s)(hw:s.words<=1048576)(oth:List Nat){i:Nat}(hi:i∈s.ly):
  BlkQ (rawS s oth) (wdN s.all s.ly (.b i)) (zAc s.all i).kind (zAc s.all i).tag (if(zAc s.all i).kind=4 then 0 else((zAc s.all i).size:Int)) true :=
 zKi s.words (zCG s.all s.ly) oth (begL s.all s.ly s.words.toNat) (zJQ hi) (zJw (h.objs i (h.lt i hi))) (zI0 h hw) (zLq hi)
theorem zQw{s:St}(h:Lay m A s)(hw:s.words<=1048576)(oth:List Nat){i k:Nat}(hi:i∈s.ly)(h4:(zAc s.all i).kind≠4)(hk:k<(zAc s.all i).parts.length):
  zAp prog 41 [.ptr 0 0,.d (w64 (wdN s.all s.ly (.b i))),.d (i64 (k:Int))] (HO (rawS s oth).size (rawS s oth).now (rawS s oth).oth (rawS s oth).beg) (.tup [w64 (wdN s.all s.ly ((zAc s.all i).parts.getD k default)),bl true]):=by
 have hz:=zM9 h4
 have hb:=zNC hi (k:=k) (by omega)
 have hg:(zGU s.all s.ly (zAc s.all i))[k]?=some (wdN s.all s.ly ((zAc s.all i).parts.getD k default)):=by
  rw[zGU,if_neg h4,qAH,qAD,qAB hk];rfl
 rw[hg]at hb
 exact zV4 s.words (zCG s.all s.ly) oth (begL s.all s.ly s.words.toNat) (zJQ hi) (zJw (h.objs i (h.lt i hi))) (zI0 h hw) (zLq hi) h4 (by omega) hb
theorem zTP{s:St}(h:Lay m A s)(hw:s.words<=1048576)(oth:List Nat){i:Nat}(hi:i∈s.ly)(h4:(zAc s.all i).kind=4): TxtQ (rawS s oth) (wdN s.all s.ly (.b i)) (zAc s.all i).text:=by
 have ho:=h.objs i (h.lt i hi)
 have ht:=ho.txt h4
 refine zby s.words (zCG s.all s.ly) oth (begL s.all s.ly s.words.toNat) (zJQ hi) (zJw ho) h4 ht.2.1 ht.2.2 (zI0 h hw) (zLq hi) fun q hq=>?_
 rw[zNC hi hq,zGU,if_pos h4]
theorem zc6{s:St}(h:Lay m A s)(hw:s.words<=1048576){i:Nat}(hi:i∈s.ly): offL s.all s.ly i<1048576:=by
 have h1:=zOR (all:=s.all) hi
 have h2:=zHP (zAc s.all i)
 have h3:=h.used
 have h4:=h.room
 omega
theorem zT1{s:St}(h:Lay m A s)(hw:s.words<=1048576){r:Rf}(hv:Val s r): RfOk s r:=by
 cases r with
 |n v=>exact hv.num
 |b i =>
  have:=zc6 h hw (hv.ly i rfl)
  show 2*offL s.all s.ly i<_
  omega
theorem of_t{s:St}(h:Lay m A s)(hw:s.words<=1048576)(oth:List Nat){r:Rf}(hv:Val s r){k:Int}(hk:s.of r k=true): zAp prog 52 [.ptr 0 0,.d (w64 (wdN s.all s.ly r)),.d (i64 k)] (MX m (rawS s oth)) (bl true):=by
 cases r with
 |n v=>cases hk
 |b i =>
  have e:(zAc s.all i).kind=k:=of_decide_eq_true hk
  have hB:=zKK h hw oth (hv.ly i rfl)
  rw[e]at hB
  exact zGf m (rawS s oth) hB
theorem of_f{s:St}(h:Lay m A s)(hw:s.words<=1048576)(oth:List Nat){r:Rf}(hv:Val s r){k:Int}(hk:s.of r k=false): zAW prog 52 [.ptr 0 0,.d (w64 (wdN s.all s.ly r)),.d (i64 k)] (MX m (rawS s oth)) (.d (bl false)) (MX m (rawS (s.stop 4) oth)):=by
 cases r with
 |n v =>
  obtain⟨h1,h2⟩:=zQT s.all s.ly v
  exact zc7 m (rawS s oth) (zWF s.words (zCG s.all s.ly) oth (begL s.all s.ly s.words.toNat) h1 h2) (.inl rfl)
 |b i =>
  have e:(zAc s.all i).kind≠k:=of_decide_eq_false hk
  exact zc7 m (rawS s oth) (zKK h hw oth (hv.ly i rfl)) (.inr e)
end
section
attribute [local irreducible] zAL Program.underlying Ylds zA2 alex zBZ zBP awp zAb zBh zBg zAW zBF zAp zCO zBG zBR zAr zBV zBY zBe zCQ zBM zA8 zBE JFit
theorem do_A(m:Img)(c c':CK){k a b:Int}{s:CS}:
  (DoAt m c k ⟨7,a,b⟩ s->zDH m c c' s true (flo s) (2) (1) (true) (.d (zBU [k+1]))->DoTo m c c' k)/\
  (DoAt m c k ⟨5,a,b⟩ s->zDH m c c' s true (flo s) (a) (0) (true) (.d (zBU [k+1]))->DoTo m c c' k)/\
  (DoAt m c k ⟨6,a,b⟩ s->zDH m c c' s true (flo s) (a+1) (1) (true) (.d (zBU [k+1]))->DoTo m c c' k)/\
  (DoAt m c k ⟨13,a,b⟩ s->zDH m c c' s true (flo s) (1) (0) (true) (.nil)->DoTo m c c' k)/\
  (DoAt m c k ⟨15,a,b⟩ s->zDH m c c' s true (flo s) (0) (0) (true) (.d (zBU [a]))->DoTo m c c' k)/\
  (DoAt m c k ⟨16,a,b⟩ s->zDH m c c' s true (flo s) (1) (0) (true) (.d (zBU [a,k+1]))->DoTo m c c' k)/\
  (DoAt m c k ⟨4,a,b⟩ s->zDH m c c' s true (flo s) (0) (1) (decide (s.of≠-1)) (.d (zBU [k+1]))->DoTo m c c' k):=by
 refine⟨fun hd hS=>?_,fun hd hS=>?_,fun hd hS=>?_,fun hd hS=>?_,fun hd hS=>?_,fun hd hS=>?_,fun hd hS=>?_⟩
 all_goals
  refine zH1 func74 rfl ntmps74 results74 rfl ?_
  intro wb St0 X fx
  refine zI6 m c hd wb St0 X fx _ ?_
  obtain⟨hk0,hat0,hst0,hbig,hlen,hh,htr,ha,hb,_⟩:=hd
  have hr0:=(qAA.1 hst0).1
  have hk1:k<(c.at_.length:Int):=by omega
  dsimp only at ha hb
  clear hat0 hst0
  conv=>arg 2;whnf
  skip
  exact yN
theorem do_7(m:Img)(c c':CK){k a b:Int}{s:CS}(hd:DoAt m c k ⟨7,a,b⟩ s)(hS:zDH m c c' s true (flo s) (2) (1) (true) (.d (zBU [k+1]))): DoTo m c c' k:=(do_A m c c').1 hd hS
theorem do_5(m:Img)(c c':CK){k a b:Int}{s:CS}(hd:DoAt m c k ⟨5,a,b⟩ s)(hS:zDH m c c' s true (flo s) (a) (0) (true) (.d (zBU [k+1]))): DoTo m c c' k:=(do_A m c c').2.1 hd hS
theorem do_6(m:Img)(c c':CK){k a b:Int}{s:CS}(hd:DoAt m c k ⟨6,a,b⟩ s)(hS:zDH m c c' s true (flo s) (a+1) (1) (true) (.d (zBU [k+1]))): DoTo m c c' k:=(do_A m c c').2.2.1 hd hS
theorem ze0(m:Img)(c c':CK){k a b:Int}{s:CS}(hd:DoAt m c k ⟨13,a,b⟩ s)(hS:zDH m c c' s true (flo s) (1) (0) (true) (.nil)): DoTo m c c' k:=(do_A m c c').2.2.2.1 hd hS
theorem zey(m:Img)(c c':CK){k a b:Int}{s:CS}(hd:DoAt m c k ⟨15,a,b⟩ s)(hS:zDH m c c' s true (flo s) (0) (0) (true) (.d (zBU [a]))): DoTo m c c' k:=(do_A m c c').2.2.2.2.1 hd hS
theorem zex(m:Img)(c c':CK){k a b:Int}{s:CS}(hd:DoAt m c k ⟨16,a,b⟩ s)(hS:zDH m c c' s true (flo s) (1) (0) (true) (.d (zBU [a,k+1]))): DoTo m c c' k:=(do_A m c c').2.2.2.2.2.1 hd hS
theorem do_4(m:Img)(c c':CK){k a b:Int}{s:CS}(hd:DoAt m c k ⟨4,a,b⟩ s)(hS:zDH m c c' s true (flo s) (0) (1) (decide (s.of≠-1)) (.d (zBU [k+1]))): DoTo m c c' k:=(do_A m c c').2.2.2.2.2.2 hd hS
theorem do_B(m:Img)(c c':CK){k a b:Int}{s:CS}:
  (DoAt m c k ⟨0,a,b⟩ s->zDH m c c' s true (flo s) (1) (0) (decide (s.of = -1)&&decide ((s.tries.length:Int)=0)) (.nil)->DoTo m c c' k)/\
  (DoAt m c k ⟨8,a,b⟩ s->zDH m c c' s true (flo s) (2) (0) (!decide (s.of = -1)&&decide ((s.tries.length:Int)=0)) (.nil)->DoTo m c c' k)/\
  (DoAt m c k ⟨9,a,b⟩ s->zDH m c c' s true (flo s) (1) (0) (!decide (s.of = -1)&&decide ((s.tries.length:Int)=0)) (.nil)->DoTo m c c' k)/\
  (DoAt m c k ⟨2,a,b⟩ s->zDH m c c' s true (flo s) (0) (1) (decide (a<s.height)) (.d (zBU [k+1]))->DoTo m c c' k)/\
  (DoAt m c k ⟨11,a,b⟩ s->zDH m c c' s true (flo s) (1) (1) (decide (a<8)) (.d (zBU [k+1]))->DoTo m c c' k)/\
  (DoAt m c k ⟨1,a,b⟩ s->zDH m c c' s true (flo s) (0) (1) (decide (a<(m.pool.length:Int))) (.d (zBU [k+1]))->DoTo m c c' k)/\
  (DoAt m c k ⟨12,a,b⟩ s->zDH m c c' s true (flo s) (takes a) (1) (decide (takes a>0)) (.d (zBU [k+1]))->DoTo m c c' k)/\
  (DoAt m c k ⟨3,a,b⟩ s->(hgi:0<=getI c.has s.of/\getI c.has s.of<=2000000)->zDH m c c' s true (flo s) (0) (1) (!decide (s.of = -1)&&decide (a<getI c.has s.of-1)) (.d (zBU [k+1]))->DoTo m c c' k):=by
 refine⟨fun hd hS=>(qBQ (s.of = -1)).elim (fun q0=>(qBQ ((s.tries.length:Int)=0)).elim (fun q1=>?_) (fun q1=>?_)) (fun q0=>(qBQ ((s.tries.length:Int)=0)).elim (fun q1=>?_) (fun q1=>?_)),fun hd hS=>(qBQ (s.of = -1)).elim (fun q0=>(qBQ ((s.tries.length:Int)=0)).elim (fun q1=>?_) (fun q1=>?_)) (fun q0=>(qBQ ((s.tries.length:Int)=0)).elim (fun q1=>?_) (fun q1=>?_)),fun hd hS=>(qBQ (s.of = -1)).elim (fun q0=>(qBQ ((s.tries.length:Int)=0)).elim (fun q1=>?_) (fun q1=>?_)) (fun q0=>(qBQ ((s.tries.length:Int)=0)).elim (fun q1=>?_) (fun q1=>?_)),fun hd hS=>(qBQ (a<s.height)).elim (fun q0=>?_) (fun q0=>?_),fun hd hS=>(qBQ (a<8)).elim (fun q0=>?_) (fun q0=>?_),fun hd hS=>(qBQ (a<(m.pool.length:Int))).elim (fun q0=>?_) (fun q0=>?_),fun hd hS=>(qBQ (takes a>0)).elim (fun q0=>?_) (fun q0=>?_),fun hd hgi hS=>(qBQ (s.of = -1)).elim (fun q0=>(qBQ (a<getI c.has s.of-1)).elim (fun q1=>?_) (fun q1=>?_)) (fun q0=>(qBQ (a<getI c.has s.of-1)).elim (fun q1=>?_) (fun q1=>?_))⟩
 all_goals first|rw[decide_eq_true q0]at hS|rw[decide_eq_false q0]at hS|skip
 all_goals first|rw[decide_eq_true q1]at hS|rw[decide_eq_false q1]at hS|skip
 all_goals
  refine zH1 func74 rfl ntmps74 results74 rfl ?_
  intro wb St0 X fx
  refine zI6 m c hd wb St0 X fx _ ?_
  obtain⟨hk0,hat0,hst0,hbig,hlen,hh,htr,ha,hb,_⟩:=hd
  have hr0:=(qAA.1 hst0).1
  have hk1:k<(c.at_.length:Int):=by omega
  dsimp only at ha hb
  clear hat0 hst0
  conv=>arg 2;whnf
  skip
  exact yD
theorem do_0(m:Img)(c c':CK){k a b:Int}{s:CS}(hd:DoAt m c k ⟨0,a,b⟩ s)(hS:zDH m c c' s true (flo s) (1) (0) (decide (s.of = -1)&&decide ((s.tries.length:Int)=0)) (.nil)): DoTo m c c' k:=(do_B m c c').1 hd hS
theorem do_8(m:Img)(c c':CK){k a b:Int}{s:CS}(hd:DoAt m c k ⟨8,a,b⟩ s)(hS:zDH m c c' s true (flo s) (2) (0) (!decide (s.of = -1)&&decide ((s.tries.length:Int)=0)) (.nil)): DoTo m c c' k:=(do_B m c c').2.1 hd hS
theorem do_9(m:Img)(c c':CK){k a b:Int}{s:CS}(hd:DoAt m c k ⟨9,a,b⟩ s)(hS:zDH m c c' s true (flo s) (1) (0) (!decide (s.of = -1)&&decide ((s.tries.length:Int)=0)) (.nil)): DoTo m c c' k:=(do_B m c c').2.2.1 hd hS
theorem do_2(m:Img)(c c':CK){k a b:Int}{s:CS}(hd:DoAt m c k ⟨2,a,b⟩ s)(hS:zDH m c c' s true (flo s) (0) (1) (decide (a<s.height)) (.d (zBU [k+1]))): DoTo m c c' k:=(do_B m c c').2.2.2.1 hd hS
theorem ze2(m:Img)(c c':CK){k a b:Int}{s:CS}(hd:DoAt m c k ⟨11,a,b⟩ s)(hS:zDH m c c' s true (flo s) (1) (1) (decide (a<8)) (.d (zBU [k+1]))): DoTo m c c' k:=(do_B m c c').2.2.2.2.1 hd hS
theorem do_1(m:Img)(c c':CK){k a b:Int}{s:CS}(hd:DoAt m c k ⟨1,a,b⟩ s)(hS:zDH m c c' s true (flo s) (0) (1) (decide (a<(m.pool.length:Int))) (.d (zBU [k+1]))): DoTo m c c' k:=(do_B m c c').2.2.2.2.2.1 hd hS
theorem ze1(m:Img)(c c':CK){k a b:Int}{s:CS}(hd:DoAt m c k ⟨12,a,b⟩ s)(hS:zDH m c c' s true (flo s) (takes a) (1) (decide (takes a>0)) (.d (zBU [k+1]))): DoTo m c c' k:=(do_B m c c').2.2.2.2.2.2.1 hd hS
theorem do_3(m:Img)(c c':CK){k a b:Int}{s:CS}(hd:DoAt m c k ⟨3,a,b⟩ s)(hgi:0<=getI c.has s.of/\getI c.has s.of<=2000000)(hS:zDH m c c' s true (flo s) (0) (1) (!decide (s.of = -1)&&decide (a<getI c.has s.of-1)) (.d (zBU [k+1]))): DoTo m c c' k:=(do_B m c c').2.2.2.2.2.2.2 hd hgi hS
theorem do_C(m:Img)(c c':CK){k a b:Int}{s:CS}:
  (∀{cb:Bool},DoAt m c k ⟨10,a,b⟩ s->(hQ:conQ m c a cb)->zDH m c c' s true (flo s) (b) (1) (cb&&decide (b<=8)) (.d (zBU [k+1]))->DoTo m c c' k)/\
  (∀{cb:Bool},DoAt m c k ⟨19,a,b⟩ s->(hQ:conQ m c b cb)->zDH m c c' s true (flo s) (0) (0) (decide (s.height>0)&&cb) (.d (zBU [a,k+1]))->DoTo m c c' k)/\
  (∀{cb:Bool},DoAt m c k ⟨20,a,b⟩ s->(hQ:numQ m c b cb)->zDH m c c' s true (flo s) (0) (0) (decide (s.height>0)&&cb) (.d (zBU [a,k+1]))->DoTo m c c' k):=by
 refine⟨fun {cb} hd hQ hS=>(qBQ (b<=8)).elim (fun q0=>?_) (fun q0=>?_),fun {cb} hd hQ hS=>(qBQ (s.height>0)).elim (fun q0=>?_) (fun q0=>?_),fun {cb} hd hQ hS=>(qBQ (s.height>0)).elim (fun q0=>?_) (fun q0=>?_)⟩
 all_goals cases cb
 all_goals first|rw[decide_eq_true q0]at hS|rw[decide_eq_false q0]at hS|skip
 all_goals
  refine zH1 func74 rfl ntmps74 results74 rfl ?_
  intro wb St0 X fx
  refine zI6 m c hd wb St0 X fx _ ?_
  obtain⟨hk0,hat0,hst0,hbig,hlen,hh,htr,ha,hb,_⟩:=hd
  have hr0:=(qAA.1 hst0).1
  have hk1:k<(c.at_.length:Int):=by omega
  dsimp only at ha hb
  clear hat0 hst0
  conv=>arg 2;whnf
  skip
  exact yI
theorem ze3(m:Img)(c c':CK){k a b:Int}{s:CS}(hd:DoAt m c k ⟨10,a,b⟩ s){cb:Bool}(hQ:conQ m c a cb)(hS:zDH m c c' s true (flo s) (b) (1) (cb&&decide (b<=8)) (.d (zBU [k+1]))): DoTo m c c' k:=(do_C m c c').1 hd hQ hS
theorem zeu(m:Img)(c c':CK){k a b:Int}{s:CS}(hd:DoAt m c k ⟨19,a,b⟩ s){cb:Bool}(hQ:conQ m c b cb)(hS:zDH m c c' s true (flo s) (0) (0) (decide (s.height>0)&&cb) (.d (zBU [a,k+1]))): DoTo m c c' k:=(do_C m c c').2.1 hd hQ hS
theorem zet(m:Img)(c c':CK){k a b:Int}{s:CS}(hd:DoAt m c k ⟨20,a,b⟩ s){cb:Bool}(hQ:numQ m c b cb)(hS:zDH m c c' s true (flo s) (0) (0) (decide (s.height>0)&&cb) (.d (zBU [a,k+1]))): DoTo m c c' k:=(do_C m c c').2.2 hd hQ hS
