import Derived.Test.YtcagoomibpcdlaaGreatDoorMAL
set_option maxHeartbeats 16000000
namespace Go.Proofs.YtcagoomibpcdlaaGreatDoor
section
open _root_.Go.Proofs.Tryz
open Go.Sx Go.Vm
attribute [local irreducible] zAL Program.underlying Ylds zA2 alex zBZ zBP awp zAb zBh zBg zAW zBF zAp zBG zBR zAr zBV zBY zBe zBM zA8 zBE
def MB0(fx:Nat->Option Nat)(m:Img)(r:Raw)(s3 s7:SV)(c:RCl): Ob:=.bx (fx 0) none [.d (.slice (m.pool.map enCn)),.d (.slice (m.code.map enIn)),.ptr 1 0,s3,.d (i64 c.at_),.d (i64 c.base),.d (w64 c.fn),s7,.buf 7 r.trs.length,.d (i64 r.fin),.nil,.d (i64 r.num),.buf 8 r.out.length,.d (i64 r.steps)]
def tyB(t:RTy): Ob:=.bx none (some 114) [.d (i64 t.c.at_),.d (i64 t.c.base),.d (w64 t.c.fn),.d (i64 t.height),.d (i64 t.calls)]
theorem zT5(m:Img)(r:Raw)(n:Int){t:RTy}(ht:r.trs.getLast? = some t)(hb:0<=t.height/\t.height<=r.stk.length)(hc:0<=t.calls/\t.calls<=r.cls.length)(hl:r.stk.length<=1048576)(hl2:r.cls.length<=1048576)(hl3:r.trs.length<=1048576):
  zAW prog 50 [.ptr 0 0,.d (i64 n)] (MX m r) .top (MX m { r with stk:=r.stk.take t.height.toNat++[nW n],c:=t.c,cls:=r.cls.take t.calls.toNat,trs:=r.trs.dropLast }):=by
 have hN:=zRq [] [] n
 have h1:0<r.trs.length:=by cases hs:r.trs with|nil=>rw[hs]at ht;cases ht|cons _ _=>exact Nat.succ_pos _
 have hP:=zIw m { r with stk:=r.stk.take t.height.toNat,c:=t.c,cls:=r.cls.take t.calls.toNat,trs:=r.trs.dropLast } (w:=nW n) (by show (List.take _ _).length<=_;rw[qAG];omega)
 have hld:(r.trs.map enTy)[((r.trs.length:Int)-1).toNat]?=some (enTy t):=by
  refine zGL ?_
  rw[show ((r.trs.length:Int)-1).toNat=r.trs.length-1 by omega,<-qBG];exact ht
 have l5:(r.stk.take t.height.toNat).length=t.height.toNat:=by rw[qAG];omega
 have l6:(r.cls.take t.calls.toNat).length=t.calls.toNat:=by rw[qAG];omega
 have l7:r.trs.dropLast.length=((r.trs.length:Int)-1).toNat:=by rw[qAy];omega
 refine zBr func50 rfl ntmps50 results50 rfl ?_
 intro wb St0 X fx
 repeat' first|(refine zHF (id:=3) [.y (.ptr 0 0),.y (.ptr 0 0),.y (.ptr 0 (0+8)),.y (.buf 7 r.trs.length),.y (.ptr 0 0),.y (.ptr 0 0),.y (.ptr 0 (0+8)),.y (.buf 7 r.trs.length),.y (.d (i64 (r.trs.length:Int))),.y (.d (i64 ((r.trs.length:Int)-1))),.y (.bptr 7 ((r.trs.length:Int)-1).toNat 0),.y (.d (.agg [i64 t.c.at_,i64 t.c.base,w64 t.c.fn,i64 t.height,i64 t.calls])),.mk ⟨4,_,114,_⟩ none] (by kernel_rfl) (by kernel_rfl) (.inr (by kernel_rfl)) ⟨⟨rfl,zAQ rfl⟩,rfl,⟨rfl,zAa rfl⟩,rfl,⟨rfl,zAF rfl zDb⟩,rfl,⟨rfl,zAG rfl zCN rfl rfl⟩,rfl,⟨rfl,zAQ rfl⟩,rfl,⟨rfl,zAa rfl⟩,rfl,⟨rfl,zAF rfl zDb⟩,rfl,⟨rfl,zAG rfl zCN rfl rfl⟩,rfl,⟨rfl,zAy rfl zIG⟩,rfl,⟨rfl,zCe rfl rfl (by omega)⟩,rfl,⟨rfl,zBQ rfl rfl rfl zEz (by omega) (by rw[qAC];omega)⟩,rfl,⟨rfl,zEf rfl zCf rfl hld rfl rfl rfl⟩,rfl,⟨rfl,rfl,rfl,zKM,by kernel_rfl,rfl⟩,rfl,trivial⟩ ?_)|(refine zEk (id:=5) (s:=[(0,.ptr 0 0),(1,.d (i64 n)),(4,.ptr 9 0)]) (h:=MA fx m { r with trs:=r.trs.dropLast }++[tyB t]) (zAU (Le_all rfl) (zb1 rfl rfl l7 rfl rfl rfl rfl rfl rfl (zQQ _) rfl rfl) rfl rfl) ?_)|(refine zEd (id:=5) [.ptr 0 0,.ptr 0 0,.ptr 0 0,.ptr 0 0,.ptr 0 0,.ptr 0 (0+3),.buf 5 r.stk.length,.ptr 9 (0+3),.d (i64 t.height),.buf 5 t.height.toNat,.ptr 0 0,.ptr 0 0,.ptr 0 (0+7),.buf 6 r.cls.length,.ptr 9 (0+4),.d (i64 t.calls),.buf 6 t.calls.toNat,.ptr 9 (0+0),.d (.agg [i64 t.c.at_,i64 t.c.base,w64 t.c.fn]),.ptr 0 0,.ptr 0 (0+3),.top,.ptr 0 0,.ptr 0 (0+7),.top,.ptr 0 0,.ptr 0 (0+4),.top] [21,24,27] [MB0 fx m { r with trs:=r.trs.dropLast } (.buf 5 r.stk.length) (.buf 6 r.cls.length) r.c::(MA fx m { r with trs:=r.trs.dropLast }++[tyB t]).tail,MB0 fx m { r with trs:=r.trs.dropLast } (.buf 5 t.height.toNat) (.buf 6 r.cls.length) r.c::(MA fx m { r with trs:=r.trs.dropLast }++[tyB t]).tail,MB0 fx m { r with trs:=r.trs.dropLast } (.buf 5 t.height.toNat) (.buf 6 t.calls.toNat) r.c::(MA fx m { r with trs:=r.trs.dropLast }++[tyB t]).tail,MB0 fx m { r with trs:=r.trs.dropLast } (.buf 5 t.height.toNat) (.buf 6 t.calls.toNat) t.c::(MA fx m { r with trs:=r.trs.dropLast }++[tyB t]).tail] (by kernel_rfl) (by kernel_rfl) rfl (.inl rfl) rfl (by kernel_rfl) rfl rfl ?_ ?_)|(refine zGk (id:=6) (s:=[(0,.ptr 0 0),(1,.d (i64 n))]) (h:=MA fx m { r with stk:=r.stk.take t.height.toNat,c:=t.c,cls:=r.cls.take t.calls.toNat,trs:=r.trs.dropLast }) (zAU (Le_all rfl) (zFl rfl rfl l5 l6 rfl rfl rfl rfl rfl rfl rfl rfl (zPW _ _) (zTE _ _) (zBs rfl) rfl) rfl rfl) ?_)|apply en_n|apply zAE|apply zAA|apply zAB|apply w0|exact zFQ|(refine zBN rfl rfl rfl (fun η=>zAQ rfl) ?_)|(refine zBN rfl rfl rfl (fun η=>zAa rfl) ?_)|(refine zBN rfl rfl rfl (fun η=>zAF rfl (by first|with_reducible exact zDC|with_reducible exact zCx|with_reducible exact zEL|with_reducible exact zDb|with_reducible exact zG6|with_reducible exact zR2|with_reducible exact zR1)) ?_)|(refine zDG 0 0 rfl rfl rfl (by decide +kernel) (by decide +kernel) (zBc (by first|exact zAG rfl (by first|with_reducible exact zBS|with_reducible exact zCc|with_reducible exact zCP|with_reducible exact zCN|with_reducible exact zCf|with_reducible exact zBj|with_reducible exact zCC|with_reducible exact zAY) rfl rfl|exact zAT rfl (by first|with_reducible exact zBS|with_reducible exact zCc|with_reducible exact zCP|with_reducible exact zCN|with_reducible exact zCf|with_reducible exact zBj|with_reducible exact zCC|with_reducible exact zAY) rfl rfl rfl|exact zHH rfl (by first|with_reducible exact zEj|with_reducible exact zEc|with_reducible exact zEb) rfl (by omega) ⟨_,_,_,_,rfl,(by first|exact qA2 (zAq _).symm|exact qA2 (qAC _).symm)⟩) zCl) ?_)|(refine zDG 0 1 rfl rfl rfl (by decide +kernel) (by decide +kernel) (zBc (by first|exact zAG rfl (by first|with_reducible exact zBS|with_reducible exact zCc|with_reducible exact zCP|with_reducible exact zCN|with_reducible exact zCf|with_reducible exact zBj|with_reducible exact zCC|with_reducible exact zAY) rfl rfl|exact zAT rfl (by first|with_reducible exact zBS|with_reducible exact zCc|with_reducible exact zCP|with_reducible exact zCN|with_reducible exact zCf|with_reducible exact zBj|with_reducible exact zCC|with_reducible exact zAY) rfl rfl rfl|exact zHH rfl (by first|with_reducible exact zEj|with_reducible exact zEc|with_reducible exact zEb) rfl (by omega) ⟨_,_,_,_,rfl,(by first|exact qA2 (zAq _).symm|exact qA2 (qAC _).symm)⟩) (zBc (by first|exact zAG rfl (by first|with_reducible exact zBS|with_reducible exact zCc|with_reducible exact zCP|with_reducible exact zCN|with_reducible exact zCf|with_reducible exact zBj|with_reducible exact zCC|with_reducible exact zAY) rfl rfl|exact zAT rfl (by first|with_reducible exact zBS|with_reducible exact zCc|with_reducible exact zCP|with_reducible exact zCN|with_reducible exact zCf|with_reducible exact zBj|with_reducible exact zCC|with_reducible exact zAY) rfl rfl rfl|exact zHH rfl (by first|with_reducible exact zEj|with_reducible exact zEc|with_reducible exact zEb) rfl (by omega) ⟨_,_,_,_,rfl,(by first|exact qA2 (zAq _).symm|exact qA2 (qAC _).symm)⟩) zCl)) ?_)|(refine zDG 0 2 rfl rfl rfl (by decide +kernel) (by decide +kernel) (zBc (by first|exact zAG rfl (by first|with_reducible exact zBS|with_reducible exact zCc|with_reducible exact zCP|with_reducible exact zCN|with_reducible exact zCf|with_reducible exact zBj|with_reducible exact zCC|with_reducible exact zAY) rfl rfl|exact zAT rfl (by first|with_reducible exact zBS|with_reducible exact zCc|with_reducible exact zCP|with_reducible exact zCN|with_reducible exact zCf|with_reducible exact zBj|with_reducible exact zCC|with_reducible exact zAY) rfl rfl rfl|exact zHH rfl (by first|with_reducible exact zEj|with_reducible exact zEc|with_reducible exact zEb) rfl (by omega) ⟨_,_,_,_,rfl,(by first|exact qA2 (zAq _).symm|exact qA2 (qAC _).symm)⟩) (zBc (by first|exact zAG rfl (by first|with_reducible exact zBS|with_reducible exact zCc|with_reducible exact zCP|with_reducible exact zCN|with_reducible exact zCf|with_reducible exact zBj|with_reducible exact zCC|with_reducible exact zAY) rfl rfl|exact zAT rfl (by first|with_reducible exact zBS|with_reducible exact zCc|with_reducible exact zCP|with_reducible exact zCN|with_reducible exact zCf|with_reducible exact zBj|with_reducible exact zCC|with_reducible exact zAY) rfl rfl rfl|exact zHH rfl (by first|with_reducible exact zEj|with_reducible exact zEc|with_reducible exact zEb) rfl (by omega) ⟨_,_,_,_,rfl,(by first|exact qA2 (zAq _).symm|exact qA2 (qAC _).symm)⟩) (zBc (by first|exact zAG rfl (by first|with_reducible exact zBS|with_reducible exact zCc|with_reducible exact zCP|with_reducible exact zCN|with_reducible exact zCf|with_reducible exact zBj|with_reducible exact zCC|with_reducible exact zAY) rfl rfl|exact zAT rfl (by first|with_reducible exact zBS|with_reducible exact zCc|with_reducible exact zCP|with_reducible exact zCN|with_reducible exact zCf|with_reducible exact zBj|with_reducible exact zCC|with_reducible exact zAY) rfl rfl rfl|exact zHH rfl (by first|with_reducible exact zEj|with_reducible exact zEc|with_reducible exact zEb) rfl (by omega) ⟨_,_,_,_,rfl,(by first|exact qA2 (zAq _).symm|exact qA2 (qAC _).symm)⟩) zCl))) ?_)|(refine zIL _ rfl rfl rfl rfl (by first|with_reducible exact zBS|with_reducible exact zCc|with_reducible exact zCP|with_reducible exact zCN|with_reducible exact zCf|with_reducible exact zBj|with_reducible exact zCC|with_reducible exact zAY) rfl rfl rfl rfl rfl rfl ?_)|(refine zCJ (by kernel_rfl) ?_;refine aStA ?_)|(apply zHH;exact rfl;(first|with_reducible exact zEj|with_reducible exact zEc|with_reducible exact zEb);exact rfl;omega;exact⟨_,_,_,_,rfl,(by first|exact qA2 (zAq _).symm|exact qA2 (qAC _).symm)⟩)|exact ycA zHY hN|(refine aVMA zGO (hP) ?_)|refine ayA rfl ?_|refine ayQ rfl ?_|apply ay (hd:=rfl)|refine zCe rfl rfl ?_|(refine w0' ?_)|refine zAI rfl ?_|apply zAP|refine awDA ?_
 all_goals first|omega|skip
 all_goals exact zE5 rfl
end
section
open _root_.Go.Proofs.Tryz
open Go.Sx Go.Vm
theorem zYv: zPr prog 146=some (3,3):=by kernel_rfl
theorem zcE: zRy prog 3=some (i64 0):=by kernel_rfl
attribute [local irreducible] zAL Program.underlying Ylds zA2 alex zBZ zBP awp zAb zBh zBg zAW zBF zAp zCO zBG zBR zAr zBV zBY zBe zCQ zBM zA8 zBE
abbrev conQ(m:Img)(c:CK)(k:Int)(b:Bool): Prop:=zAp prog 121 [.ptr 0 0,.d (i64 k)] (CX m c) (bl b)
abbrev numQ(m:Img)(c:CK)(k:Int)(b:Bool): Prop:=zAp prog 125 [.ptr 0 0,.d (i64 k)] (CX m c) (bl b)
theorem zba(m:Img)(c:CK)(k:Int)(h:¬k<(m.pool.length:Int)): conQ m c k false:=by
 refine zCq func121 rfl ntmps121 results121 rfl ?_
 intro wb St0
 exact yC
theorem zdc(m:Img)(c:CK)(k:Int){t:Bool}{x:Int}{s:List UInt8}(h0:0<=k)(hk:m.pool[k.toNat]?=some ⟨t,x,s⟩): conQ m c k (t&&conF s):=by
 have hlt:=(qAA.1 hk).1
 have h:k<(m.pool.length:Int):=by omega
 have hat:(m.pool.map enCn)[k.toNat]?=some (enCn ⟨t,x,s⟩):=by rw[qAH,hk];rfl
 have hC:=zZq s
 refine zCq func121 rfl ntmps121 results121 rfl ?_
 intro wb St0
 cases t
 all_goals
  exact yM
theorem zas(m:Img)(c:CK)(k:Int)(h:¬k<(m.pool.length:Int)): numQ m c k false:=by
 refine zCq func125 rfl ntmps125 results125 rfl ?_
 intro wb St0
 exact yC
theorem zdF(m:Img)(c:CK)(k:Int){t:Bool}{x:Int}{s:List UInt8}(h0:0<=k)(hk:m.pool[k.toNat]?=some ⟨t,x,s⟩): numQ m c k (!t):=by
 have hlt:=(qAA.1 hk).1
 have h:k<(m.pool.length:Int):=by omega
 have hat:(m.pool.map enCn)[k.toNat]?=some (enCn ⟨t,x,s⟩):=by rw[qAH,hk];rfl
 refine zCq func125 rfl ntmps125 results125 rfl ?_
 intro wb St0
 cases t
 all_goals
  exact yC
theorem zY6(m:Img)(c:CK)(k:Int)(h0:0<=k): conQ m c k (zGS conF m k):=by
 unfold zGS
 cases h:m.pool[k.toNat]? with
 |none=>exact zba m c k (by have:=qBP.1 h;omega)
 |some q=>obtain⟨t,x,s⟩:=q;exact zdc m c k h0 h
theorem zdE(m:Img)(c:CK)(k:Int)(h0:0<=k): numQ m c k (zIb m k):=by
 unfold zIb
 cases h:m.pool[k.toNat]? with
 |none=>exact zas m c k (by have:=qBP.1 h;omega)
 |some q=>obtain⟨t,x,s⟩:=q;exact zdF m c k h0 h
section
variable {η:List Ob}{σ:Sl}{dst:Option Nat}{ty:TypeId}{pos:String}{after:Array Edge}{gd:Option (Nat×Bool)}{x y z:Operand}
theorem zNg{id:Nat}{kb:Option Nat}{L:List (Int×Int)}{a:Int}(hx:oval σ x=.mp id)(ho:η[id]?=some (.map kb (kvs cki (hasD L))))(hy:oval σ y=.d (i64 a)): Ylds prog η σ ⟨dst,.lookup 146 x y false,ty,pos,after,gd⟩ (.d (i64 (getI L a))):=by
 rw[<-zOW]
 exact zbt hx ho hy zYv uint zcE
theorem zdq{C:Ctx}{ops:Array Oper}{rest:List Oper}{K:Sl->List Ob->Prop}{id:Nat}{kb:Option Nat}{L:List (Int×Int)}{a v:Int}(hP:C.P=prog)(hx:oval σ x=.mp id)(ho:η[id]?=some (.map kb (kvs cki (hasD L))))(hy:oval σ y=.d (i64 a))(hz:oval σ z=.d (i64 v))(hro:Nat.ble C.ro id=true)
  (h:alex C false ops rest K σ (η.set id (.map kb (kvs cki (hasD (putI L a v)))))):zA2 C false ops ⟨none,.mapUpdate 146 x y z,ty,pos,after,gd⟩ rest K σ η:=by
 obtain⟨P,N,w0,St0,X,ro⟩:=C
 dsimp only at hP
 subst hP
 rw[<-zQt]at h
 exact zbq (k:=3) (e:=3) (enc:=cki) (dv:=i64 v) hx ho hy (by rw[hz];rfl) zYv (zY0 uint) hro h
end
abbrev zQM(m:Img)(c c':CK)(k n:Int): Prop:=zAW prog 124 [.ptr 0 0,.d (i64 k),.d (i64 n)] (CX m c) .top (CX m c')
theorem zYG(m:Img)(c:CK)(k n:Int)(hn:0<=n/\n<=1048576)(hC:zJk m { c with has:=putI c.has k (n+1) } (({ c with has:=putI c.has k (n+1) }:CK).come k ⟨k,1,[]⟩) k ⟨k,1,[]⟩): zQM m c (c.begin k n) k n:=by
 refine zH1 func124 rfl ntmps124 results124 rfl ?_
 intro wb St0 X fx
 unfold CK.begin
 by_cases h1:getI c.has k>0
 ·by_cases h2:getI c.has k=n+1
  ·have h3:¬getI c.has k≠n+1:=fun e=>e h2
   rw[if_neg (fun e=>h3 e.2)]
   exact yN
  ·rw[if_pos ⟨h1,h2⟩]
   exact yD
 ·rw[if_neg (fun e=>h1 e.1)]
  exact yN
