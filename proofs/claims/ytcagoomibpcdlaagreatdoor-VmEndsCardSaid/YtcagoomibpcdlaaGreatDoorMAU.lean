/- Parts of the proof. -/
import Derived.Test.YtcagoomibpcdlaaGreatDoorMAT
set_option maxHeartbeats 16000000
namespace Go.Proofs.YtcagoomibpcdlaaGreatDoor
open _root_.Go.Proofs.Tryz
open Go.Sx Go.Vm
theorem zR2{P:Program}{f:FuncId}{avs:List SV}{pre:List Ob}{res:D}(h:zA6 P f avs pre res): zAU P f avs pre (.d res) pre:=by
 intro g w vs hi hr
 refine(h g w vs hi hr).mono fun e w' ⟨v,St',he,hrep,hbel,hkeep,hnew,hlt⟩=>?_
 have hg:Grow g w { g with St:=St' } w':=⟨rfl,rfl,rfl,rfl,hbel.os,hbel.tape,hbel.output,hbel.size,hbel.block,hkeep.sub,hnew,hlt⟩
 refine⟨v,{ g with St:=St' },he,hi.grow hg,hrep,⟨hbel.os,hbel.tape,hbel.output,hbel.size,fun k hk _=>hbel.block k hk,hkeep,fun b o hb=>?_,fun j b hb=>.inr ⟨j,hb⟩,fun _ _ _ _=>rfl⟩⟩
 rcases hnew b o hb with h1|h1
 ·exact .inl h1
 ·exact .inr (.inl h1)
attribute [local irreducible] zAO Program.underlying Ylds zBE alex zB0 zBk awp zAg zB9 zB8 zAU zBj zA6 zDJ zBl zBn zBC zBq zBz zB7 zDQ zBm zBc zBe
theorem zQJ(m:Img)(r:Raw)(o:Thing)(hl:r.stk.length<=1048576)(hz:o.size<=4000)(h:(r.stk.length:Int)+(1-(o.size:Int))>4000): zAU prog 46 [.ptr 0 0,.d (i64 o.kind),.d (i64 o.tag),.d (i64 (o.size:Int))] (MX m r) .top (MX m { r with fin:=6 }):=by
 have hH:=zI4 m r (k:=1-(o.size:Int)) hl (by omega) h
 refine zA7 func46 rfl ntmps46 results46 rfl ?_
 intro wb St0 X fx
 repeat' first|apply en_n|apply zAG|apply zAA|apply zAD|apply w0|refine k0u (hd:=rfl) rfl rfl ?_|(refine aVM zCg (hH) (SArgs_all rfl) rfl rfl ?_)|apply ay (hd:=rfl)|exact zAF rfl|refine zC2 rfl rfl ?_|exact zAZ rfl rfl|exact zAH rfl|refine zAI rfl ?_|apply zAQ|apply en_r
 all_goals first|omega|exact zDW rfl
theorem zQI(m:Img)(r r':Raw)(o:Thing)(hl:r.stk.length<=1048576)(hz:o.size<=4000)(h:¬(r.stk.length:Int)+(1-(o.size:Int))>4000)(hR:zAU prog 76 [.ptr 0 0,.d (i64 ((o.size+1:Nat):Int))] (MX m r) (.d (bl false)) (MX m r')): zAU prog 46 [.ptr 0 0,.d (i64 o.kind),.d (i64 o.tag),.d (i64 (o.size:Int))] (MX m r) .top (MX m r'):=by
 have hH:=zIS m r (k:=1-(o.size:Int)) hl (by omega) h
 have hN:=zKM o.size (by omega)
 refine zA7 func46 rfl ntmps46 results46 rfl ?_
 intro wb St0 X fx
 repeat' first|apply en_n|apply zAG|apply zAA|apply zAD|apply w0|(refine zAX [0,1,2,3,4,5,6,7,8] [] rfl rfl zCg (hH) rfl (SArgs_all rfl) rfl (by decide) rfl rfl rfl rfl)|(refine zAd zEi hN (CoLA rfl))|(refine aVM zG4 (hR) (SArgs_all rfl) rfl rfl ?_)|apply ay (hd:=rfl)|exact zAF rfl|refine zC2 rfl rfl ?_|exact zBS rfl|exact zAV rfl rfl|exact zAH rfl|refine w1 rfl rfl ?_|refine zAI rfl ?_|apply zAQ|apply en_r
 all_goals first|omega|exact zDW rfl
theorem zSc(m:Img)(r r':Raw)(o:Thing)(ho:HeadOk o)(hk:o.kind<=3)(hl:r.stk.length<=1048576)(hz:o.size<=4000)(h:¬(r.stk.length:Int)+(1-(o.size:Int))>4000)(hR:zAU prog 76 [.ptr 0 0,.d (i64 ((o.size+1:Nat):Int))] (MX m r) (.d (bl true)) (MX m r'))
  (hs:0<=r'.size/\r'.size<=1048576) (hn:r'.now.length+1+o.size<=r'.size) (hb:r'.beg.length=r'.size) (hl':r'.stk.length<=1048576) (hn2:o.size<=r'.stk.length) (hv:∀i x,i<o.size->r'.stk[r'.stk.length-o.size+i]?=some x->zA6 prog 131 [.ptr 0 0,.d (w64 x)] (HO r'.size r'.now r'.oth r'.beg) (bl true)) :
  zAU prog 46 [.ptr 0 0,.d (i64 o.kind),.d (i64 o.tag),.d (i64 (o.size:Int))] (MX m r) .top (MX m { r' with now:=r'.now++zCu o::r'.stk.drop (r'.stk.length-o.size),beg:=r'.beg.set r'.now.length true,stk:=r'.stk.take (r'.stk.length-o.size)++[2*r'.now.length] }):=by
 have hH:=zIS m r (k:=1-(o.size:Int)) hl (by omega) h
 have hN:=zKM o.size (by omega)
 have hA:=zTJ m r' o ho hk (r'.stk.length-o.size) hs hn hz hb (by omega) hl' hv
 rw[qAi (by rw[qAb];omega)]at hA
 have hA2:zAU prog 78 [.ptr 1 0,.d (i64 o.kind),.d (i64 o.tag),.bsl 5 ((r'.stk.length:Int)-(o.size:Int)).toNat (r'.stk.length-((r'.stk.length:Int)-(o.size:Int)).toNat)] (MX m r') (.d (.tup [w64 (2*r'.now.length),bl true])) (MX m { r' with now:=r'.now++zCu o::r'.stk.drop (r'.stk.length-o.size),beg:=r'.beg.set r'.now.length true }):=by
  rw[show r'.stk.length-((r'.stk.length:Int)-(o.size:Int)).toNat=o.size by omega,show ((r'.stk.length:Int)-(o.size:Int)).toNat=r'.stk.length-o.size by omega]
  exact hA
 have hB:=zFC m { r' with now:=r'.now++zCu o::r'.stk.drop (r'.stk.length-o.size),beg:=r'.beg.set r'.now.length true } (n:=o.size) (w:=2*r'.now.length) hl' hn2
 clear hA hv
 refine zA7 func46 rfl ntmps46 results46 rfl ?_
 intro wb St0 X fx
 repeat' first|apply en_n|apply zAG|apply zAA|apply zAD|apply w0|exact zAL rfl|(refine zAX [0,1,2,3,4,5,6,7,8] [] rfl rfl zCg (hH) rfl (SArgs_all rfl) rfl (by decide) rfl rfl rfl rfl)|(refine zAd zEi hN (CoLA rfl))|(refine zZ7 rfl rfl (by with_reducible exact zBY) rfl (by omega) (by rw[zAm];exact qAN _))|(refine aVM zG4 (hR) (SArgs_all rfl) rfl rfl ?_)|(refine zBs (by kernel_rfl) ?_;refine aVM zNm (hA2) (SArgs_all rfl) rfl rfl ?_)|(refine aVM zD8 (hB) (SArgs_all rfl) rfl rfl ?_)|apply ay (hd:=rfl)|exact zAF rfl|exact zAB rfl|refine zC2 rfl rfl ?_|exact zBS rfl|exact zAV rfl rfl|exact zAk rfl rfl|exact zA3 rfl zCq|exact zAH rfl|(apply zAC;exact rfl;(with_reducible first|exact zBb|exact zCn))|(apply zAE;exact rfl;(with_reducible first|exact zBw|exact zBJ);exact rfl;exact rfl)|refine w1 rfl rfl ?_|refine zAJ rfl ?_|apply zAR|refine zAf (by kernel_rfl) (by kernel_rfl) ?_
 all_goals first|omega|skip
 all_goals exact zEG rfl
theorem zQt(m:Img)(r:Raw)(s:List UInt8)(n:Nat)(hl:r.stk.length<=1048576)(hz:n<=4000)(h:(r.stk.length:Int)+(1-(n:Int))>4000): zAU prog 75 [.ptr 0 0,.d (str s),.d (i64 (n:Int))] (MX m r) .top (MX m { r with fin:=6 }):=by
 have hH:=zI4 m r (k:=1-(n:Int)) hl (by omega) h
 refine zA7 func75 rfl ntmps75 results75 rfl ?_
 intro wb St0 X fx
 repeat' first|apply en_n|apply zAG|apply zAA|apply zAD|apply w0|refine k0u (hd:=rfl) rfl rfl ?_|(refine aVM zCg (hH) (SArgs_all rfl) rfl rfl ?_)|apply ay (hd:=rfl)|exact zAF rfl|refine zC2 rfl rfl ?_|exact zAZ rfl rfl|exact zAH rfl|refine zAI rfl ?_|apply zAQ|apply en_r
 all_goals first|omega|exact zDW rfl
theorem zQs(m:Img)(r r':Raw)(s:List UInt8)(hs:s.length<=200)(n:Nat)(hl:r.stk.length<=1048576)(hz:n<=4000)(h:¬(r.stk.length:Int)+(1-(n:Int))>4000)(hR:zAU prog 76 [.ptr 0 0,.d (i64 (((s.length+7) / 8+1:Nat):Int))] (MX m r) (.d (bl false)) (MX m r')): zAU prog 75 [.ptr 0 0,.d (str s),.d (i64 (n:Int))] (MX m r) .top (MX m r'):=by
 have hH:=zIS m r (k:=1-(n:Int)) hl (by omega) h
 have hN:=zHc s (by omega)
 refine zA7 func75 rfl ntmps75 results75 rfl ?_
 intro wb St0 X fx
 repeat' first|apply en_n|apply zAG|apply zAA|apply zAD|apply w0|(refine zAX [0,1,2,3,4,5,6,7,8] [] rfl rfl zCg (hH) rfl (SArgs_all rfl) rfl (by decide) rfl rfl rfl rfl)|(refine zAd zEo hN (CoLA rfl))|(refine aVM zG4 (hR) (SArgs_all rfl) rfl rfl ?_)|apply ay (hd:=rfl)|exact zAF rfl|refine zC2 rfl rfl ?_|exact zBS rfl|exact zAV rfl rfl|exact zAH rfl|refine w1 rfl rfl ?_|refine zAI rfl ?_|apply zAQ|apply en_r
 all_goals first|omega|exact zDW rfl
theorem zTm(m:Img)(r r':Raw)(s:List UInt8)(hsl:s.length<=200)(n:Nat)(hl:r.stk.length<=1048576)(hz:n<=4000)(h:¬(r.stk.length:Int)+(1-(n:Int))>4000)(hR:zAU prog 76 [.ptr 0 0,.d (i64 (((s.length+7) / 8+1:Nat):Int))] (MX m r) (.d (bl true)) (MX m r'))
  (hs:0<=r'.size/\r'.size<=1048576) (hn:r'.now.length+(zCF s).need<=r'.size) (hb:r'.beg.length=r'.size) (hl':r'.stk.length<=1048576) (hn2:n<=r'.stk.length) :
  zAU prog 75 [.ptr 0 0,.d (str s),.d (i64 (n:Int))] (MX m r) .top (MX m { r' with now:=r'.now++zCu (zCF s)::zFe (zCF s).size s,beg:=r'.beg.set r'.now.length true,stk:=r'.stk.take (r'.stk.length-n)++[2*r'.now.length] }):=by
 have hH:=zIS m r (k:=1-(n:Int)) hl (by omega) h
 have hN:=zHc s (by omega)
 have hA:=zNF r'.size r'.now r'.oth r'.beg s hsl hs hn hb
 have hB:=zFC m { r' with now:=r'.now++zCu (zCF s)::zFe (zCF s).size s,beg:=r'.beg.set r'.now.length true } (n:=n) (w:=2*r'.now.length) hl' hn2
 refine zA7 func75 rfl ntmps75 results75 rfl ?_
 intro wb St0 X fx
 repeat' first|(refine zFZ (id:=2) (s:=[(0,.ptr 0 0),(2,.d (i64 (n:Int))),(6,.d (w64 (2*r'.now.length)))]) (h:=MA fx m { r' with now:=r'.now++zCu (zCF s)::zFe (zCF s).size s,beg:=r'.beg.set r'.now.length true }) (zAS (Le_all rfl) (zID rfl rfl rfl rfl rfl rfl (zBf rfl) (zBf rfl) (zBf rfl) rfl) rfl rfl) ?_)|apply en_n|apply zAG|apply zAA|apply zAD|apply w0|exact zAL rfl|(refine zAX [0,1,2,3,4,5,6,7,8] [] rfl rfl zCg (hH) rfl (SArgs_all rfl) rfl (by decide) rfl rfl rfl rfl)|(refine zAd zEo hN (CoLA rfl))|(refine aVM zG4 (hR) (SArgs_all rfl) rfl rfl ?_)|(refine zGg [1,2,3,4] zJx (hA) (SArgs_all rfl) rfl rfl (by decide) rfl rfl rfl rfl rfl rfl ?_)|(refine aVM zD8 (hB) (SArgs_all rfl) rfl rfl ?_)|apply ay (hd:=rfl)|exact zAF rfl|exact zAB rfl|refine zC2 rfl rfl ?_|exact zBS rfl|exact zAV rfl rfl|exact zAk rfl rfl|exact zAH rfl|exact zAC rfl zBb|exact zAE rfl zBw rfl rfl|refine w1 rfl rfl ?_|refine zAJ rfl ?_|apply zAR
 all_goals first|omega|skip
 all_goals exact zEG rfl
end Go.Proofs.YtcagoomibpcdlaaGreatDoor
