import Derived.Test.YtcagoomibpcdlaaGreatDoorMAI
set_option maxHeartbeats 16000000
namespace Go.Proofs.YtcagoomibpcdlaaGreatDoor
open _root_.Go.Proofs.Tryz
open Go.Sx Go.Vm
theorem len3{bs:List Nat}(h:bs.length=3): ∃a b c,bs=[a,b,c]:=by
 match bs,h with
 |[a,b,c],_=>exact⟨a,b,c,rfl⟩
theorem zbg(n:Nat): (bls (List.replicate n false)).map SV.d=(List.replicate n (SV.d (bl false))).take (bls (List.replicate n false)).length:=by
 rw[zHd,qAp,qAe (by rw[qAp];exact qAP _),bls,qBU,qBU]
theorem zWi(i:Nat): (i:Int).tmod 8=((i%8:Nat):Int):=by rw[Int.tmod_eq_emod_of_nonneg (by omega)];omega
theorem zcP(i:Nat)(h:i<=1000000): IntKind.i64.wrap ((i:Int).tdiv 8)=((i / 8:Nat):Int):=by rw[Int.tdiv_eq_ediv_of_nonneg (by omega),zId];omega
theorem pow8(r:Nat)(h:r<8): (2:Int) ^ min (8*(r:Int)).toNat IntKind.u64.bits=((256 ^ r:Nat):Int):=by
 have:r=0\/r=1\/r=2\/r=3\/r=4\/r=5\/r=6\/r=7:=by omega
 rcases this with rfl|rfl|rfl|rfl|rfl|rfl|rfl|rfl <;> decide
theorem zak(r:Nat)(h:r<8): 256*256 ^ r<=18446744073709551616:=by
 have:r=0\/r=1\/r=2\/r=3\/r=4\/r=5\/r=6\/r=7:=by omega
 rcases this with rfl|rfl|rfl|rfl|rfl|rfl|rfl|rfl <;> decide
theorem zXR(s:List UInt8)(i:Nat)(b:UInt8): IntKind.u64.wrap (BitVec.ofInt IntKind.u64.bits ((zFh (((s.take i).drop (8*(i / 8))).take 8):Nat):Int) ||| BitVec.ofInt IntKind.u64.bits (IntKind.u64.wrap (IntKind.u64.wrap (b.toNat:Int)*2 ^ min (8*((i:Int).tmod 8)).toNat IntKind.u64.bits))).toNat=((zFh (((s.take i).drop (8*(i / 8))).take 8)+b.toNat*256 ^ (i%8):Nat):Int):=by
 have hr:i%8<8:=Nat.mod_lt _ (by decide)
 have hb:b.toNat<256:=b.toNat_lt
 have hp:=zak (i%8) hr
 have hm:b.toNat*256 ^ (i%8)<=255*256 ^ (i%8):=qAh _ (by omega)
 have h0:0<256 ^ (i%8):=Nat.pow_pos (by decide)
 have e1:IntKind.u64.wrap (IntKind.u64.wrap (b.toNat:Int)*2 ^ min (8*((i:Int).tmod 8)).toNat IntKind.u64.bits)=((b.toNat*256 ^ (i%8):Nat):Int):=by
  rw[zWi,pow8 _ hr,zEU,zEU,show ((b.toNat:Int)%18446744073709551616)=(b.toNat:Int) by omega,<-Int.natCast_mul]
  omega
 have hl:zFh (((s.take i).drop (8*(i / 8))).take 8)<18446744073709551616:=by
  have h1:=zKW (((s.take i).drop (8*(i / 8))).take 8)
  have h2:(((s.take i).drop (8*(i / 8))).take 8).length<=8:=by rw[qAG];omega
  have h3:256 ^ (((s.take i).drop (8*(i / 8))).take 8).length<=256 ^ 8:=Nat.pow_le_pow_right (by decide) h2
  have h4:(256:Nat) ^ 8=18446744073709551616:=by decide
  omega
 rw[e1,or64 hl (by omega),zal]
theorem zXB{w i:Nat}{b:UInt8}(h:w / 256 ^ (i%8)%256=b.toNat): IntKind.u8.wrap ((w:Int).fdiv (2 ^ min (8*((i:Int).tmod 8)).toNat IntKind.u64.bits))=(b.toNat:Int):=by
 have hr:i%8<8:=Nat.mod_lt _ (by decide)
 rw[zWi,pow8 _ hr,qBi _ (Int.natCast_nonneg _),<-Int.natCast_ediv,<-h]
 simp[IntKind.wrap,IntKind.bits,IntKind.signed]
def txtR(s:List UInt8)(i:Nat): List UInt8:=s.take i++List.replicate (s.length-i) 0
theorem zcL(s:List UInt8): txtR s 0=List.replicate s.length 0:=by simp[txtR]
theorem zWf(s:List UInt8): txtR s s.length=s:=by simp[txtR]
theorem zWe(s:List UInt8){i:Nat}(h:i<=s.length): (txtR s i).length=s.length:=by simp[txtR];omega
theorem zTQ{s:List UInt8}{i:Nat}{b:UInt8}(h:s[i]?=some b): (bys (txtR s i)).set i (.val (.int .u8 b.toNat))=bys (txtR s (i+1)):=by
 obtain⟨hl,e⟩:=qAA.1 h
 rw[bys,bys,show D.val (.int .u8 (b.toNat:Int))=(fun b:UInt8=>D.val (.int .u8 b.toNat)) b from rfl,<-qBr]
 congr 1
 unfold txtR
 rw[qBX _ _ (by simp;omega),qAG,qBw (Nat.le_of_lt hl),qBM,show s.length-i=(s.length-(i+1))+1 by omega,List.replicate_succ,qBo,qA7,h]
 simp
theorem zcQ: zBD prog 5=some (false,1):=by kernel_rfl
theorem zeD: zKH prog 5=some (.val (.int .u8 0)):=by kernel_rfl
theorem zPf{C:Ctx}{Q:Exit->Sl->List Ob->Prop}{σ:Sl}{η:List Ob}(h:Stop (awp C .ret Q σ η)): awp C .ret Q σ η:=by
 unfold Stop at h;exact h
attribute [local irreducible] zAL Program.underlying Ylds zA2 alex zBZ zBP awp zAb zBh zBg zAW zBF zAp zBG zBR zAr zBV zBY zBe zBM zA8 zBE
theorem zb5(n:Int)(h:n<16\/1048576<n): zAb prog 19 [i64 n] (.tup [.val (.pointer none),i64 200]):=by
 refine zB0 func19 rfl ntmps19 results19 rfl ?_
 intro wb St0
 rcases h with h|h
 ·skip
  exact yB
 ·have h2:¬n<16:=by omega
  skip
  exact yB
theorem zZP(n:Nat)(h:16<=n/\n<=1048576): zAW prog 19 [.d (i64 (n:Int))] [] (.pair (.ptr 0 0) (.d (i64 0))) (HO (n:Int) [] [] (List.replicate n false)):=by
 refine zEh func19 rfl ntmps19 results19 rfl rfl rfl ?_
 intro wb St0 X fx
 have h1:¬(n:Int)<16:=by omega
 have h2:¬(n:Int)>1048576:=by omega
 repeat' first|(refine zPf ?_)|(refine zVg [.y (.d (i64 (n:Int))),.mk ⟨11,58,0,n,w64 0⟩,.y (.d (i64 (n:Int))),.mk ⟨13,58,0,n,w64 0⟩,.y (.d (i64 (n:Int))),.y (.d (i64 (n:Int))),.mk ⟨16,4,n,n,bl false⟩] (by kernel_rfl) (by kernel_rfl) (.inr (by kernel_rfl)) ⟨⟨⟨rfl,zAD rfl⟩,rfl⟩,⟨⟨⟨_,_,_,_,_,_,rfl,rfl,rfl,qAQ _,zCh,zBk,zd_w,rfl,zEm,(show n*8<=_ by omega),(show n<=_ by omega)⟩,rfl,rfl,(by kernel_rfl)⟩,rfl⟩,⟨⟨rfl,zAD rfl⟩,rfl⟩,⟨⟨⟨_,_,_,_,_,_,rfl,rfl,rfl,qAQ _,zCh,zBk,zd_w,rfl,zEm,(show n*8<=_ by omega),(show n<=_ by omega)⟩,rfl,rfl,(by kernel_rfl)⟩,rfl⟩,⟨⟨rfl,zAD rfl⟩,rfl⟩,⟨⟨rfl,zAD rfl⟩,rfl⟩,⟨⟨⟨_,_,_,_,_,_,rfl,rfl,rfl,qAP _,zNq,zII,zd_b,rfl,zQV,(show n*1<=_ by omega),(show n<=_ by omega)⟩,rfl,rfl,(by kernel_rfl)⟩,rfl⟩,trivial⟩ ?_;intro bs hbs;obtain⟨b1,b2,b3,rfl⟩:=len3 hbs)|apply en_n|apply zAE|apply zAA|apply zAB|apply w0|exact zBI zWV zWO (PD_d rfl rfl (PD_d rfl rfl (PD_d rfl rfl (PD_d rfl rfl zCI)))) rfl|(refine zCJ (by kernel_rfl) ?_;apply aBox;exact rfl;exact rfl;exact rfl;exact rfl)|refine ayA rfl ?_|refine ayQ rfl ?_|apply ay (hd:=rfl)|refine w1 rfl rfl ?_|refine zAI rfl ?_|apply zAP
 all_goals first|omega|skip
 refine Stop.go ?_
 refine zBW (s:=[(2,.ptr 3 0),(3,.d (i64 0))]) (h:=[.bx (some b1) (some 58) ((List.replicate n (w64 0)).map SV.d),.bx (some b2) (some 58) ((List.replicate n (w64 0)).map SV.d),.bx (some b3) (some 4) ((List.replicate n (bl false)).map SV.d),.box [.d (.val (.slice (some ⟨b1,0,none⟩) 0 n)),.d (.val (.slice (some ⟨b2,0,none⟩) 0 n)),.d (i64 (n:Int)),.d (.val (.slice (some ⟨b3,0,none⟩) n n))]]) ?_ ?_
 ·exact zAU (Le_all rfl) (zAK rfl (congrArg (Ob.bx _ _) qBU) (zAK rfl (congrArg (Ob.bx _ _) qBU) (zAK rfl (congrArg (Ob.bx _ _) qBU) (zAK rfl rfl zAe)))) rfl (by simp only[List.all_cons,List.all_nil,Ob.below,zLE];rfl)
 refine zI7 0 3 0 0 n b1 (xs:=w64s []) rfl rfl rfl rfl (by simp) rfl (qAQ _) (by simp only[maxLen];omega) (fun d hd=>by simp[w64s]at hd) ?_
 refine zBW (s:=[(2,.ptr 3 0),(3,.d (i64 0))]) (h:=[.buf true 58 1 (w64s []),.bx (some b2) (some 58) ((List.replicate n (w64 0)).map SV.d),.bx (some b3) (some 4) ((List.replicate n (bl false)).map SV.d),.box [.buf 0 0,.d (.val (.slice (some ⟨b2,0,none⟩) 0 n)),.d (i64 (n:Int)),.d (.val (.slice (some ⟨b3,0,none⟩) n n))]]) ?_ ?_
 ·exact zAU (Le_all rfl) (zAs rfl rfl rfl (zAK rfl (zKT 0 _ _ _).symm (zAK rfl (zKT 0 _ _ _).symm (zAK rfl rfl zAe)))) rfl (by simp only[List.all_cons,List.all_nil,Ob.below,zLE];rfl)
 refine zI7 1 3 1 0 n b2 (xs:=w64s []) rfl rfl rfl rfl (by simp) rfl (qAQ _) (by simp only[maxLen];omega) (fun d hd=>by simp[w64s]at hd) ?_
 refine zBW (s:=[(2,.ptr 3 0),(3,.d (i64 0))]) (h:=[.buf true 58 1 (w64s []),.buf true 58 1 (w64s []),.bx (some b3) (some 4) ((List.replicate n (bl false)).map SV.d),.box [.buf 0 0,.buf 1 0,.d (i64 (n:Int)),.d (.val (.slice (some ⟨b3,0,none⟩) n n))]]) ?_ ?_
 ·exact zAU (Le_all rfl) (zAs rfl rfl rfl (zAs rfl rfl rfl (zAK rfl (zKT 1 _ _ _).symm (zAK rfl rfl zAe)))) rfl (by simp only[List.all_cons,List.all_nil,Ob.below,zLE];rfl)
 refine zI7 2 3 3 n n b3 (xs:=bls (List.replicate n false)) rfl rfl rfl rfl (by simp) (by rw[zbg,qBU]) (by rw[zHd,qAp];exact qAP _) (by simp only[maxLen];omega) (fun d hd=>by obtain⟨x,_,rfl⟩:=qA5.1 hd;rfl) ?_
 refine zBW (s:=[(2,.ptr 3 0),(3,.d (i64 0))]) (h:=[.buf true 58 1 (w64s []),.buf true 58 1 (w64s []),.buf true 4 1 (bls (List.replicate n false)),.box [.buf 0 0,.buf 1 0,.d (i64 (n:Int)),.buf 2 n]]) ?_ ?_
 ·exact zAU (Le_all rfl) (zAs rfl rfl rfl (zAs rfl rfl rfl (zAs rfl rfl rfl (zAK rfl rfl zAe)))) rfl (rfl)
 refine zJd 0 3 rfl rfl rfl rfl ?_
 refine zJd 1 3 rfl rfl rfl rfl ?_
 refine zJd 2 3 rfl rfl rfl rfl ?_
 refine zBW (s:=[(2,.ptr 0 0),(3,.d (i64 0))]) (h:=[.box [.buf 1 0,.buf 2 0,.d (i64 (n:Int)),.buf 3 n],.buf true 58 1 (w64s []),.buf true 58 1 (w64s []),.buf true 4 1 (bls (List.replicate n false))]) ?_ ?_
 ·exact zAU (Le_all rfl) (zAK rfl rfl (zAs rfl rfl rfl (zAs rfl rfl rfl (zAs rfl rfl rfl zAe)))) rfl (rfl)
 refine zAM ?_
 exact zDe ⟨zAU (Le_all rfl) (zAK rfl (by show Ob.bx _ _ [_,_,_,.buf 3 (List.replicate n false).length]=_;rw[qAp];rfl) (zAs rfl rfl rfl (zAs rfl rfl rfl (zAs rfl rfl rfl zAe)))) rfl rfl,rfl⟩
theorem zPU(size:Int)(now other:List Nat)(beg:List Bool)(s:List UInt8)(hl:s.length<=200)(hs:0<=size/\size<=1048576)(hn:now.length+(zB6 s).need<=size)(hb:beg.length=size):
  zAW prog 127 [.ptr 0 0,.d (str s)] (HO size now other beg) (.d (.tup [w64 (2*now.length),bl true])) (HO size (now++zDM (zB6 s)::zGr (zB6 s).size s) other (beg.set now.length true)):=by
 have hnz:(zB6 s).need=1+(s.length+7) / 8:=rfl
 have hsz:(zB6 s).size=(s.length+7) / 8:=by unfold Thing.size;omega
 have hho:HeadOk (zB6 s):=⟨by show (1:Int)<=4/\(4:Int)<=4;omega,by show (0:Int)<=(s.length:Int)/\(s.length:Int)<=1048576;omega,by rw[hsz];omega⟩
 have hH:=zU0 (zB6 s) hho
 have hN:=zI8 s (by omega)
 have hP:=zcw size now other beg (zDM (zB6 s)) (zGr (zB6 s).size s) 0 (zB6 s).size hs (by omega) hb (by rw[zEY];omega) (by rw[zEY];omega)
 rw[List.drop_zero,qAe (by rw[zEY];exact qAP _)]at hP
 have g1:¬(s.length:Int)>200:=by omega
 have hk:(((s.length+7) / 8+1:Nat):Int)-1=((zB6 s).size:Int):=by rw[hsz];omega
 refine zLR func127 rfl ntmps127 results127 rfl rfl rfl ?_
 intro wb St0 X fx
 repeat' first|apply en_n|apply zAE|apply zAA|apply zAB|apply w0|(apply zD2;exact rfl;with_reducible exact ustr)|exact ycA zFj hN|(apply zVo (n:=((zB6 s).size:Int));(refine(congrArg (fun x=>SV.d (D.val (.int .i64 x))) hk));(refine(congrArg (fun x=>SV.d (D.val (.int .i64 x))) hk));(with_reducible exact zCh);(with_reducible exact zBk);(with_reducible exact zd_w);exact rfl;exact rfl;(with_reducible exact zEm);exact rfl;exact rfl;omega)|refine ayA rfl ?_|refine ayQ rfl ?_|apply ay (hd:=rfl)|refine zCe rfl rfl ?_|refine zAI rfl ?_|apply zAO|apply zAP
 all_goals first|omega|skip
 refine zBA (α:=Nat) (fun i=>i<=s.length) (fun i=>[(0,.ptr 0 0),(1,.d (str s)),(6,.buf 4 (zB6 s).size),(16,.d (i64 (s.length:Int))),(17,.d (i64 (i:Int)))]) (fun i=>anch fx 0 (HO size now other beg) (HX size now other beg (zGr (zB6 s).size (s.take i)))) (fun i=>s.length-i) 0 (qAQ _)
  (zAU (Le_all rfl) (zAK rfl rfl (zAK rfl rfl (zAK rfl rfl (zAK rfl rfl (zAs rfl rfl (by rw[List.take_zero,zUT,w64s,qBU];rfl) zAe))))) rfl rfl) ?_
 intro i hi
 rcases qAR i s.length with hlt|hge
 ·have hbi:s[i]?=some (s.getD i 0):=by rw[qAD,qAB hlt];rfl
  have hq:=zcP i (by omega)
  have hm:=zWi i
  have hpv:=zXR s i (s.getD i 0)
  have hki:i / 8<(zB6 s).size:=by omega
  have hpn:=zSR hbi hki
  have hpl:=zEY (zB6 s).size (s.take i)
  have hli:(i:Int)<(s.length:Int):=by omega
  have hld:(w64s (zGr (zB6 s).size (s.take i)))[(IntKind.i64.wrap ((i:Int).tdiv 8)).toNat]?=some (w64 (zFh (((s.take i).drop (8*(i / 8))).take 8))):=by rw[hq,qAn];exact zEI (zFV _ _ _ hki)
  clear hP hH hN
  skip
  repeat' first|apply en_n|apply zAE|apply zAA|apply zAB|apply w0|(apply zLz;exact rfl;exact rfl;with_reducible exact ustr;(first|assumption|omega))|(apply zQI;exact rfl;exact rfl;exact(by decide))|(apply zS2;exact rfl;exact rfl;exact(by decide))|(apply zPH;exact rfl;exact rfl;omega)|exact Y_or rfl rfl|(apply zBQ;exact rfl;exact rfl;exact rfl;(with_reducible exact zBk);omega;(rw[zAq];omega))|exact zCT rfl zBj rfl hld rfl|(refine zCJ (by kernel_rfl) ?_;refine zH6 rfl rfl rfl zBj rfl rfl ?_ rfl ?_)|refine ayA rfl ?_|refine ayQ rfl ?_|refine ayW rfl ?_|apply ay (hd:=rfl)|refine zBp rfl rfl ?_|refine zdx rfl rfl ?_|(refine w0' ?_)|refine zAJ rfl ?_|apply zAO|apply zAP|refine awDA ?_|apply eb_n
  all_goals first|omega|(rw[zAq];omega)|skip
  refine⟨i+1,by omega,by omega,?_⟩
  refine zAU (Le_all rfl) (zAK rfl rfl (zAK rfl rfl (zAK rfl rfl (zAK rfl rfl (zAs rfl rfl ?_ zAe))))) rfl rfl
  rw[<-hpn,<-zJA]
  exact congr (congrArg _ (by rw[hq,qAn])) (zKn hpv).symm
 ·have e:i=s.length:=by omega
  have hli:¬(i:Int)<(s.length:Int):=by omega
  subst e
  rw[qAw]
  skip
  repeat' first|exact zVt rfl|apply en_n|apply zAE|apply zAA|apply zAB|apply w0|(apply zD2;exact rfl;with_reducible exact ustr)|exact zBm rfl rfl|exact zH8 rfl zDF|(refine zAR zKB hH (CoLA rfl))|(refine zHi [0,1,2,3,4] zOn (hP) (SArgs_all rfl) rfl rfl (by decide) rfl rfl rfl rfl rfl rfl ?_)|apply ay (hd:=rfl)|exact zAD rfl|exact zAC rfl|exact zAo rfl rfl|exact zAQ rfl|refine zAI rfl ?_|apply zAM|apply zBH|apply en_e|apply eb_e
  all_goals first|omega|skip
  all_goals exact zIQ (zBu (RV_d rfl (RV_d rfl zA5 rfl) rfl)) (zAU Le_nil (zAK rfl rfl (zAK rfl rfl (zAK rfl rfl (zAK rfl rfl zAe)))) rfl rfl)
theorem zby(size:Int)(now other:List Nat)(beg:List Bool){a:Nat}{o:Thing}(h:now[a]?=some (zDM o))(ho:HeadOk o)(hk:o.kind=4)(htg:o.tag=o.text.length)(hl:o.text.length<=200)(hn:now.length<=1048576)(hb:beg[a]?=some true)(hbd:∀q,q<o.size->now[a+1+q]?=(zGr o.size o.text)[q]?):
  zAp prog 55 [.ptr 0 0,.d (w64 (2*a))] (HO size now other beg) (.tup [str o.text,bl true]):=by
 have hB:=zKi size now other beg h ho hn hb
 rw[if_pos hk]at hB
 have hsz:o.size=(o.text.length+7) / 8:=by unfold Thing.size Thing.need;rw[if_pos hk];omega
 have hne:¬o.kind≠4:=fun c=>c hk
 have hal:=(qAA.1 h).1
 refine zJL func55 rfl ntmps55 results55 rfl ?_
 intro wb St0
 repeat' first|apply en_n|apply zAE|apply zAA|apply zAB|apply w0|exact qcA [0,1,2,3] [] zC3 (hB)|(apply zVo (n:=(o.text.length:Int));(refine(congrArg (fun x=>SV.d (D.val (.int .i64 x))) htg));(refine(congrArg (fun x=>SV.d (D.val (.int .i64 x))) htg));(with_reducible exact zVG);(with_reducible exact zVH);(with_reducible exact zeD);exact rfl;exact rfl;(with_reducible exact zdf);exact rfl;exact rfl;omega)|refine ayA rfl ?_|refine ayQ rfl ?_|apply ay (hd:=rfl)|refine w1 rfl rfl ?_|refine zAI rfl ?_|apply zAO|apply zAP
 all_goals first|omega|skip
 refine zBA (α:=Nat) (fun i=>i<=o.text.length) (fun i=>[(0,.ptr 0 0),(1,.d (w64 (2*a))),(10,.buf 4 o.text.length),(29,.d (i64 (o.text.length:Int))),(30,.d (i64 (i:Int)))]) (fun i=>HO size now other beg++[.buf true 5 1 (bys (txtR o.text i))]) (fun i=>o.text.length-i) 0 (qAQ _)
  (zAU (Le_all rfl) (zAK rfl rfl (zAK rfl rfl (zAK rfl rfl (zAK rfl rfl (zAs rfl rfl (by rw[zcL,bys,qBU];rfl) zAe))))) rfl rfl) ?_
 intro i hi
 have htl:=zWe o.text hi
 rcases qAR i o.text.length with hlt|hge
 ·have hbi:o.text[i]?=some (o.text.getD i 0):=by rw[qAD,qAB hlt];rfl
  have hq:=zcP i (by omega)
  have hm:=zWi i
  have hki:i / 8<o.size:=by omega
  obtain⟨w,hw1,hw2,hw3⟩:=zSQ hbi hki
  have hwv:=hbd (i / 8) hki
  rw[hw1]at hwv
  have hwl:=(qAA.1 hwv).1
  have hrv:=zXB hw3
  have hai:=zVi a (by omega)
  have hli:(i:Int)<(o.text.length:Int):=by omega
  have hnx:=zTQ hbi
  have hld:(w64s now)[(IntKind.i64.wrap ((((2*a:Nat):Int)).fdiv (2 ^ min (1:Int).toNat IntKind.u64.bits))+1+IntKind.i64.wrap ((i:Int).tdiv 8)).toNat]?=some (w64 w):=by
   rw[hq,hai,show ((a:Int)+1+((i / 8:Nat):Int)).toNat=a+1+i / 8 by omega];exact zEI hwv
  clear hB hbd
  skip
  repeat' first|apply en_n|apply zAE|apply zAA|apply zAB|apply w0|(apply zQI;exact rfl;exact rfl;exact(by decide))|(apply zS2;exact rfl;exact rfl;exact(by decide))|(apply zNe;exact rfl;exact rfl;first|exact(by decide)|omega)|(apply zBQ;exact rfl;exact rfl;exact rfl;(first|with_reducible exact zBk|with_reducible exact zVH);omega;(first|(rw[zAq];omega)|(rw[zLn];omega)))|exact zCT rfl zBj rfl hld rfl|(refine zH6 rfl rfl rfl zcQ rfl rfl ?_ rfl ?_)|refine ayA rfl ?_|refine ayQ rfl ?_|refine ayW rfl ?_|apply ay (hd:=rfl)|refine zBp rfl rfl ?_|refine zdx rfl rfl ?_|(refine w0' ?_)|refine zAJ rfl ?_|apply zAO|apply zAP|apply eb_n
  all_goals first|omega|(rw[zLn];omega)|skip
  refine⟨i+1,by omega,by omega,?_⟩
  refine zAU (Le_all rfl) (zAK rfl rfl (zAK rfl rfl (zAK rfl rfl (zAK rfl rfl (zAs rfl rfl ?_ zAe))))) rfl rfl
  rw[<-hnx]
  exact congrArg _ (congrArg (fun x=>D.val (.int .u8 x)) hrv.symm)
 ·have e:i=o.text.length:=by omega
  have hli:¬(i:Int)<(o.text.length:Int):=by omega
  subst e
  rw[zWf]
  refine zCm 4 rfl rfl ?_
  skip
  exact yK
