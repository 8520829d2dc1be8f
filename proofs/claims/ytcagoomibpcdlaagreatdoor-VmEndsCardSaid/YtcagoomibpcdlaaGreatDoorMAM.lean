/- Parts of the proof. -/
import Derived.Test.YtcagoomibpcdlaaGreatDoorMAL
set_option maxHeartbeats 16000000
namespace Go.Proofs.YtcagoomibpcdlaaGreatDoor
open _root_.Go.Proofs.Tryz
open Go.Sx Go.Vm
theorem len3{bs:List Nat}(h:bs.length=3): ∃a b c,bs=[a,b,c]:=by
 match bs,h with
 |[a,b,c],_=>exact⟨a,b,c,rfl⟩
theorem zX8(n:Nat): (bls (List.replicate n false)).map SV.d=(List.replicate n (SV.d (bl false))).take (bls (List.replicate n false)).length:=by
 rw[zGJ,qAm,qAi (by rw[qAm];exact qAN _),bls,qBM,qBM]
theorem zTk(i:Nat): (i:Int).tmod 8=((i%8:Nat):Int):=by rw[Int.tmod_eq_emod_of_nonneg (by omega)];omega
theorem zYs(i:Nat)(h:i<=1000000): IntKind.i64.wrap ((i:Int).tdiv 8)=((i / 8:Nat):Int):=by rw[Int.tdiv_eq_ediv_of_nonneg (by omega),zHE];omega
theorem pow8(r:Nat)(h:r<8): (2:Int) ^ min (8*(r:Int)).toNat IntKind.u64.bits=((256 ^ r:Nat):Int):=by
 have:r=0\/r=1\/r=2\/r=3\/r=4\/r=5\/r=6\/r=7:=by omega
 rcases this with rfl|rfl|rfl|rfl|rfl|rfl|rfl|rfl <;> decide
theorem zXG(r:Nat)(h:r<8): 256*256 ^ r<=18446744073709551616:=by
 have:r=0\/r=1\/r=2\/r=3\/r=4\/r=5\/r=6\/r=7:=by omega
 rcases this with rfl|rfl|rfl|rfl|rfl|rfl|rfl|rfl <;> decide
theorem zUP(s:List UInt8)(i:Nat)(b:UInt8): IntKind.u64.wrap (BitVec.ofInt IntKind.u64.bits ((zEn (((s.take i).drop (8*(i / 8))).take 8):Nat):Int) ||| BitVec.ofInt IntKind.u64.bits (IntKind.u64.wrap (IntKind.u64.wrap (b.toNat:Int)*2 ^ min (8*((i:Int).tmod 8)).toNat IntKind.u64.bits))).toNat=((zEn (((s.take i).drop (8*(i / 8))).take 8)+b.toNat*256 ^ (i%8):Nat):Int):=by
 have hr:i%8<8:=Nat.mod_lt _ (by decide)
 have hb:b.toNat<256:=b.toNat_lt
 have hp:=zXG (i%8) hr
 have hm:b.toNat*256 ^ (i%8)<=255*256 ^ (i%8):=qAe _ (by omega)
 have h0:0<256 ^ (i%8):=Nat.pow_pos (by decide)
 have e1:IntKind.u64.wrap (IntKind.u64.wrap (b.toNat:Int)*2 ^ min (8*((i:Int).tmod 8)).toNat IntKind.u64.bits)=((b.toNat*256 ^ (i%8):Nat):Int):=by
  rw[zTk,pow8 _ hr,zDm,zDm,show ((b.toNat:Int)%18446744073709551616)=(b.toNat:Int) by omega,<-Int.natCast_mul]
  omega
 have hl:zEn (((s.take i).drop (8*(i / 8))).take 8)<18446744073709551616:=by
  have h1:=zI1 (((s.take i).drop (8*(i / 8))).take 8)
  have h2:(((s.take i).drop (8*(i / 8))).take 8).length<=8:=by rw[qAK];omega
  have h3:256 ^ (((s.take i).drop (8*(i / 8))).take 8).length<=256 ^ 8:=Nat.pow_le_pow_right (by decide) h2
  have h4:(256:Nat) ^ 8=18446744073709551616:=by decide
  omega
 rw[e1,or64 hl (by omega),zXH]
theorem zUA{w i:Nat}{b:UInt8}(h:w / 256 ^ (i%8)%256=b.toNat): IntKind.u8.wrap ((w:Int).fdiv (2 ^ min (8*((i:Int).tmod 8)).toNat IntKind.u64.bits))=(b.toNat:Int):=by
 have hr:i%8<8:=Nat.mod_lt _ (by decide)
 rw[zTk,pow8 _ hr,qBc _ (Int.natCast_nonneg _),<-Int.natCast_ediv,<-h]
 simp[IntKind.wrap,IntKind.bits,IntKind.signed]
def txtR(s:List UInt8)(i:Nat): List UInt8:=s.take i++List.replicate (s.length-i) 0
theorem zYo(s:List UInt8): txtR s 0=List.replicate s.length 0:=by simp[txtR]
theorem zTi(s:List UInt8): txtR s s.length=s:=by simp[txtR]
theorem zTh(s:List UInt8){i:Nat}(h:i<=s.length): (txtR s i).length=s.length:=by simp[txtR];omega
theorem zQp{s:List UInt8}{i:Nat}{b:UInt8}(h:s[i]?=some b): (bys (txtR s i)).set i (.val (.int .u8 b.toNat))=bys (txtR s (i+1)):=by
 obtain⟨hl,e⟩:=qAA.1 h
 rw[bys,bys,show D.val (.int .u8 (b.toNat:Int))=(fun b:UInt8=>D.val (.int .u8 b.toNat)) b from rfl,<-qBu]
 congr 1
 unfold txtR
 rw[qBP _ _ (by simp;omega),qAK,qBr (Nat.le_of_lt hl),qBF,show s.length-i=(s.length-(i+1))+1 by omega,List.replicate_succ,qBh,qBQ,h]
 simp
theorem zYt: zBL prog 5=some (false,1):=by kernel_rfl
theorem zaO: zIk prog 5=some (.val (.int .u8 0)):=by kernel_rfl
theorem zNQ{C:Ctx}{Q:Exit->Sl->List Ob->Prop}{σ:Sl}{η:List Ob}(h:Stop (awp C .ret Q σ η)): awp C .ret Q σ η:=by
 unfold Stop at h;exact h
attribute [local irreducible] zAO Program.underlying Ylds zBE alex zB0 zBk awp zAg zB9 zB8 zAU zBj zA6 zBl zBn zBC zBq zBz zB7 zBm zBc zBe
theorem zYX(n:Int)(h:n<16\/1048576<n): zAg prog 19 [i64 n] (.tup [.val (.pointer none),i64 200]):=by
 refine zDU func19 rfl ntmps19 results19 rfl ?_
 intro wb St0
 rcases h with h|h
 ·skip
  repeat' first|apply en_n|apply zAG|apply zAA|apply zAD|apply w0|(refine zBQ ?_)|(refine zBp ?_)|exact zCh|(refine RV_d rfl ?_ ?_)|(with_reducible exact rfl)|exact zCf rfl rfl|refine k0u (hd:=rfl) rfl rfl ?_|apply ay (hd:=rfl)|exact zAF rfl|exact zAB rfl|exact zAZ rfl rfl|refine zAI rfl ?_|apply zAQ|apply en_r
 ·have h2:¬n<16:=by omega
  skip
  repeat' first|apply en_n|apply zAG|apply zAA|apply zAD|apply w0|(refine zBQ ?_)|(refine zBp ?_)|exact zCh|(refine RV_d rfl ?_ ?_)|(with_reducible exact rfl)|exact zCY rfl rfl|exact zEr rfl rfl|apply ay (hd:=rfl)|exact zAF rfl|exact zAB rfl|exact zAV rfl rfl|refine w1 rfl rfl ?_|refine zAI rfl ?_|apply zAQ|apply en_r
theorem zWC(n:Nat)(h:16<=n/\n<=1048576): zAU prog 19 [.d (i64 (n:Int))] [] (.pair (.ptr 0 0) (.d (i64 0))) (HO (n:Int) [] [] (List.replicate n false)):=by
 refine zFV func19 rfl ntmps19 results19 rfl rfl rfl ?_
 intro wb St0 X fx
 have h1:¬(n:Int)<16:=by omega
 have h2:¬(n:Int)>1048576:=by omega
 repeat' first|(refine zNQ ?_)|(refine zSk [.y (.d (i64 (n:Int))),.mk ⟨11,58,0,n,w64 0⟩,.y (.d (i64 (n:Int))),.mk ⟨13,58,0,n,w64 0⟩,.y (.d (i64 (n:Int))),.y (.d (i64 (n:Int))),.mk ⟨16,4,n,n,bl false⟩] (by kernel_rfl) (by kernel_rfl) (.inr (by kernel_rfl)) ⟨⟨⟨rfl,zAF rfl⟩,rfl⟩,⟨⟨⟨_,_,_,_,_,_,rfl,rfl,rfl,qAV _,zCW,zBY,zd_w,rfl,zD5,(show n*8<=_ by omega),(show n<=_ by omega)⟩,rfl,rfl,(by kernel_rfl)⟩,rfl⟩,⟨⟨rfl,zAF rfl⟩,rfl⟩,⟨⟨⟨_,_,_,_,_,_,rfl,rfl,rfl,qAV _,zCW,zBY,zd_w,rfl,zD5,(show n*8<=_ by omega),(show n<=_ by omega)⟩,rfl,rfl,(by kernel_rfl)⟩,rfl⟩,⟨⟨rfl,zAF rfl⟩,rfl⟩,⟨⟨rfl,zAF rfl⟩,rfl⟩,⟨⟨⟨_,_,_,_,_,_,rfl,rfl,rfl,qAN _,zLs,zGu,zd_b,rfl,zOC,(show n*1<=_ by omega),(show n<=_ by omega)⟩,rfl,rfl,(by kernel_rfl)⟩,rfl⟩,trivial⟩ ?_;intro bs hbs;obtain⟨b1,b2,b3,rfl⟩:=len3 hbs)|apply en_n|apply zAG|apply zAA|apply zAD|apply w0|exact zBr zTY zTR (PD_d rfl rfl (PD_d rfl rfl (PD_d rfl rfl (PD_d rfl rfl zCi)))) rfl|(refine zBs (by kernel_rfl) ?_;apply aBox;exact rfl;exact rfl;exact rfl;exact rfl)|exact zCY rfl rfl|exact zDx rfl rfl|apply ay (hd:=rfl)|exact zAF rfl|exact zAB rfl|exact zAV rfl rfl|exact zFc rfl|refine w1 rfl rfl ?_|refine zAJ rfl ?_|apply zAR
 all_goals first|omega|skip
 refine Stop.go ?_
 refine zCI (s:=[(2,.ptr 3 0),(3,.d (i64 0))]) (h:=[.bx (some b1) (some 58) ((List.replicate n (w64 0)).map SV.d),.bx (some b2) (some 58) ((List.replicate n (w64 0)).map SV.d),.bx (some b3) (some 4) ((List.replicate n (bl false)).map SV.d),.box [.d (.val (.slice (some ⟨b1,0,none⟩) 0 n)),.d (.val (.slice (some ⟨b2,0,none⟩) 0 n)),.d (i64 (n:Int)),.d (.val (.slice (some ⟨b3,0,none⟩) n n))]]) ?_ ?_
 ·exact zAS (Le_all rfl) (zAN rfl (congrArg (Ob.bx _ _) qBM) (zAN rfl (congrArg (Ob.bx _ _) qBM) (zAN rfl (congrArg (Ob.bx _ _) qBM) (zAN rfl rfl zAs)))) rfl (by simp only[List.all_cons,List.all_nil,Ob.below,zJa];rfl)
 refine zHa 0 3 0 0 n b1 (xs:=w64s []) rfl rfl rfl rfl (by simp) rfl (qAV _) (by simp only[maxLen];omega) (fun d hd=>by simp[w64s]at hd) ?_
 refine zCI (s:=[(2,.ptr 3 0),(3,.d (i64 0))]) (h:=[.buf true 58 1 (w64s []),.bx (some b2) (some 58) ((List.replicate n (w64 0)).map SV.d),.bx (some b3) (some 4) ((List.replicate n (bl false)).map SV.d),.box [.buf 0 0,.d (.val (.slice (some ⟨b2,0,none⟩) 0 n)),.d (i64 (n:Int)),.d (.val (.slice (some ⟨b3,0,none⟩) n n))]]) ?_ ?_
 ·exact zAS (Le_all rfl) (zAo rfl rfl rfl (zAN rfl (zIy 0 _ _ _).symm (zAN rfl (zIy 0 _ _ _).symm (zAN rfl rfl zAs)))) rfl (by simp only[List.all_cons,List.all_nil,Ob.below,zJa];rfl)
 refine zHa 1 3 1 0 n b2 (xs:=w64s []) rfl rfl rfl rfl (by simp) rfl (qAV _) (by simp only[maxLen];omega) (fun d hd=>by simp[w64s]at hd) ?_
 refine zCI (s:=[(2,.ptr 3 0),(3,.d (i64 0))]) (h:=[.buf true 58 1 (w64s []),.buf true 58 1 (w64s []),.bx (some b3) (some 4) ((List.replicate n (bl false)).map SV.d),.box [.buf 0 0,.buf 1 0,.d (i64 (n:Int)),.d (.val (.slice (some ⟨b3,0,none⟩) n n))]]) ?_ ?_
 ·exact zAS (Le_all rfl) (zAo rfl rfl rfl (zAo rfl rfl rfl (zAN rfl (zIy 1 _ _ _).symm (zAN rfl rfl zAs)))) rfl (by simp only[List.all_cons,List.all_nil,Ob.below,zJa];rfl)
 refine zHa 2 3 3 n n b3 (xs:=bls (List.replicate n false)) rfl rfl rfl rfl (by simp) (by rw[zX8,qBM]) (by rw[zGJ,qAm];exact qAN _) (by simp only[maxLen];omega) (fun d hd=>by obtain⟨x,_,rfl⟩:=qBO.1 hd;rfl) ?_
 refine zCI (s:=[(2,.ptr 3 0),(3,.d (i64 0))]) (h:=[.buf true 58 1 (w64s []),.buf true 58 1 (w64s []),.buf true 4 1 (bls (List.replicate n false)),.box [.buf 0 0,.buf 1 0,.d (i64 (n:Int)),.buf 2 n]]) ?_ ?_
 ·exact zAS (Le_all rfl) (zAo rfl rfl rfl (zAo rfl rfl rfl (zAo rfl rfl rfl (zAN rfl rfl zAs)))) rfl (rfl)
 refine zH6 0 3 rfl rfl rfl rfl ?_
 refine zH6 1 3 rfl rfl rfl rfl ?_
 refine zH6 2 3 rfl rfl rfl rfl ?_
 refine zCI (s:=[(2,.ptr 0 0),(3,.d (i64 0))]) (h:=[.box [.buf 1 0,.buf 2 0,.d (i64 (n:Int)),.buf 3 n],.buf true 58 1 (w64s []),.buf true 58 1 (w64s []),.buf true 4 1 (bls (List.replicate n false))]) ?_ ?_
 ·exact zAS (Le_all rfl) (zAN rfl rfl (zAo rfl rfl rfl (zAo rfl rfl rfl (zAo rfl rfl rfl zAs)))) rfl (rfl)
 refine zAQ ?_
 exact zDI ⟨zAS (Le_all rfl) (zAN rfl (by show Ob.bx _ _ [_,_,_,.buf 3 (List.replicate n false).length]=_;rw[qAm];rfl) (zAo rfl rfl rfl (zAo rfl rfl rfl (zAo rfl rfl rfl zAs)))) rfl rfl,rfl⟩
theorem zNF(size:Int)(now other:List Nat)(beg:List Bool)(s:List UInt8)(hl:s.length<=200)(hs:0<=size/\size<=1048576)(hn:now.length+(zCF s).need<=size)(hb:beg.length=size):
  zAU prog 127 [.ptr 0 0,.d (str s)] (HO size now other beg) (.d (.tup [w64 (2*now.length),bl true])) (HO size (now++zCu (zCF s)::zFe (zCF s).size s) other (beg.set now.length true)):=by
 have hnz:(zCF s).need=1+(s.length+7) / 8:=rfl
 have hsz:(zCF s).size=(s.length+7) / 8:=by unfold Thing.size;omega
 have hho:HeadOk (zCF s):=⟨by show (1:Int)<=4/\(4:Int)<=4;omega,by show (0:Int)<=(s.length:Int)/\(s.length:Int)<=1048576;omega,by rw[hsz];omega⟩
 have hH:=zSC (zCF s) hho
 have hN:=zHc s (by omega)
 have hP:=zZM size now other beg (zCu (zCF s)) (zFe (zCF s).size s) 0 (zCF s).size hs (by omega) hb (by rw[zDo];omega) (by rw[zDo];omega)
 rw[List.drop_zero,qAi (by rw[zDo];exact qAN _)]at hP
 have g1:¬(s.length:Int)>200:=by omega
 have hk:(((s.length+7) / 8+1:Nat):Int)-1=((zCF s).size:Int):=by rw[hsz];omega
 refine zJm func127 rfl ntmps127 results127 rfl rfl rfl ?_
 intro wb St0 X fx
 repeat' first|apply en_n|apply zAG|apply zAA|apply zAD|apply w0|(apply zEY;exact rfl;with_reducible exact ustr)|exact zDx rfl rfl|(refine zAd zEo hN (CoLA rfl))|(apply zSs (n:=((zCF s).size:Int));(refine(congrArg (fun x=>SV.d (D.val (.int .i64 x))) hk));(refine(congrArg (fun x=>SV.d (D.val (.int .i64 x))) hk));(with_reducible exact zCW);(with_reducible exact zBY);(with_reducible exact zd_w);exact rfl;exact rfl;(with_reducible exact zD5);exact rfl;exact rfl;omega)|apply ay (hd:=rfl)|exact zAF rfl|exact zAB rfl|refine zC2 rfl rfl ?_|exact zAp rfl|refine zAJ rfl ?_|apply zAK|apply zAR
 all_goals first|omega|skip
 refine zBV (α:=Nat) (fun i=>i<=s.length) (fun i=>[(0,.ptr 0 0),(1,.d (str s)),(6,.buf 4 (zCF s).size),(16,.d (i64 (s.length:Int))),(17,.d (i64 (i:Int)))]) (fun i=>anch fx 0 (HO size now other beg) (HX size now other beg (zFe (zCF s).size (s.take i)))) (fun i=>s.length-i) 0 (qAV _)
  (zAS (Le_all rfl) (zAN rfl rfl (zAN rfl rfl (zAN rfl rfl (zAN rfl rfl (zAo rfl rfl (by rw[List.take_zero,zRm,w64s,qBM];rfl) zAs))))) rfl rfl) ?_
 intro i hi
 rcases qAQ i s.length with hlt|hge
 ·have hbi:s[i]?=some (s.getD i 0):=by rw[qAE,qAB hlt];rfl
  have hq:=zYs i (by omega)
  have hm:=zTk i
  have hpv:=zUP s i (s.getD i 0)
  have hki:i / 8<(zCF s).size:=by omega
  have hpn:=zPx hbi hki
  have hpl:=zDo (zCF s).size (s.take i)
  have hli:(i:Int)<(s.length:Int):=by omega
  have hld:(w64s (zFe (zCF s).size (s.take i)))[(IntKind.i64.wrap ((i:Int).tdiv 8)).toNat]?=some (w64 (zEn (((s.take i).drop (8*(i / 8))).take 8))):=by rw[hq,qAj];exact zDe (zEe _ _ _ hki)
  clear hP hH hN
  skip
  repeat' first|apply en_n|apply zAG|apply zAA|apply zAD|apply w0|(apply zKI;exact rfl;exact rfl;with_reducible exact ustr;(first|assumption|omega))|exact zCf rfl rfl|(apply zVO;exact rfl;exact rfl;exact(by decide))|(apply zVN;exact rfl;exact rfl;exact(by decide))|(apply zM2;exact rfl;exact rfl;omega)|exact Y_or rfl rfl|(apply zEA;exact rfl;(first|with_reducible exact su8|with_reducible exact si64|with_reducible exact su64|with_reducible exact zII);(first|with_reducible exact zIl|with_reducible exact uint|with_reducible exact ui64))|(apply zBM;exact rfl;exact rfl;exact rfl;(with_reducible exact zBY);omega;(rw[zAm];omega))|exact zCR rfl zBU rfl hld rfl|(refine zBs (by kernel_rfl) ?_;refine zGf rfl rfl rfl zBU rfl rfl ?_ rfl ?_)|apply ay (hd:=rfl)|exact zAF rfl|exact zAB rfl|refine zBG rfl rfl ?_|refine zaA rfl rfl ?_|exact zAz rfl|(refine w0' ?_)|refine zAI rfl ?_|apply zAK|apply zAR|refine zAf (by kernel_rfl) (by kernel_rfl) ?_|apply eb_n
  all_goals first|omega|(rw[zAm];omega)|skip
  refine⟨i+1,by omega,by omega,?_⟩
  refine zAS (Le_all rfl) (zAN rfl rfl (zAN rfl rfl (zAN rfl rfl (zAN rfl rfl (zAo rfl rfl ?_ zAs))))) rfl rfl
  rw[<-hpn,<-zHe]
  exact congr (congrArg _ (by rw[hq,qAj])) (zJI hpv).symm
 ·have e:i=s.length:=by omega
  have hli:¬(i:Int)<(s.length:Int):=by omega
  subst e
  rw[qA8]
  skip
  repeat' first|exact zSz rfl|apply en_n|apply zAG|apply zAA|apply zAD|apply w0|(apply zEY;exact rfl;with_reducible exact ustr)|exact zCY rfl rfl|exact zGl rfl zCq|(refine zAd zIe hH (CoLA rfl))|(refine zGg [0,1,2,3,4] zMd (hP) (SArgs_all rfl) rfl rfl (by decide) rfl rfl rfl rfl rfl rfl ?_)|apply ay (hd:=rfl)|exact zAF rfl|exact zAB rfl|exact zAk rfl rfl|exact zAH rfl|refine zAJ rfl ?_|apply zAQ|apply zBX|apply en_e|apply eb_e
  all_goals first|omega|skip
  all_goals exact zG0 (zBp (RV_d rfl (RV_d rfl zCh rfl) rfl)) (zAS Le_nil (zAN rfl rfl (zAN rfl rfl (zAN rfl rfl (zAN rfl rfl zAs)))) rfl rfl)
theorem zYS(size:Int)(now other:List Nat)(beg:List Bool){a:Nat}{o:Thing}(h:now[a]?=some (zCu o))(ho:HeadOk o)(hk:o.kind=4)(htg:o.tag=o.text.length)(hl:o.text.length<=200)(hn:now.length<=1048576)(hb:beg[a]?=some true)(hbd:∀q,q<o.size->now[a+1+q]?=(zFe o.size o.text)[q]?):
  zA6 prog 55 [.ptr 0 0,.d (w64 (2*a))] (HO size now other beg) (.tup [str o.text,bl true]):=by
 have hB:=zJE size now other beg h ho hn hb
 rw[if_pos hk]at hB
 have hsz:o.size=(o.text.length+7) / 8:=by unfold Thing.size Thing.need;rw[if_pos hk];omega
 have hne:¬o.kind≠4:=fun c=>c hk
 have hal:=(qAA.1 h).1
 refine zHp func55 rfl ntmps55 results55 rfl ?_
 intro wb St0
 repeat' first|apply en_n|apply zAG|apply zAA|apply zAD|apply w0|exact zGi rfl rfl|(refine zAX [0,1,2,3] [] rfl rfl zCk (hB) rfl (SArgs_all rfl) rfl (by decide) rfl rfl rfl rfl)|(apply zSs (n:=(o.text.length:Int));(refine(congrArg (fun x=>SV.d (D.val (.int .i64 x))) htg));(refine(congrArg (fun x=>SV.d (D.val (.int .i64 x))) htg));(with_reducible exact zXz);(with_reducible exact zVt);(with_reducible exact zaO);exact rfl;exact rfl;(with_reducible exact zZu);exact rfl;exact rfl;omega)|apply ay (hd:=rfl)|exact zAF rfl|exact zAB rfl|exact zBS rfl|exact zAV rfl rfl|exact zAk rfl rfl|exact zAz rfl|exact zAp rfl|exact zA3 rfl zZm|exact zAH rfl|refine w1 rfl rfl ?_|refine zAJ rfl ?_|apply zAK|apply zAR
 all_goals first|omega|skip
 refine zBV (α:=Nat) (fun i=>i<=o.text.length) (fun i=>[(0,.ptr 0 0),(1,.d (w64 (2*a))),(10,.buf 4 o.text.length),(29,.d (i64 (o.text.length:Int))),(30,.d (i64 (i:Int)))]) (fun i=>HO size now other beg++[.buf true 5 1 (bys (txtR o.text i))]) (fun i=>o.text.length-i) 0 (qAV _)
  (zAS (Le_all rfl) (zAN rfl rfl (zAN rfl rfl (zAN rfl rfl (zAN rfl rfl (zAo rfl rfl (by rw[zYo,bys,qBM];rfl) zAs))))) rfl rfl) ?_
 intro i hi
 have htl:=zTh o.text hi
 rcases qAQ i o.text.length with hlt|hge
 ·have hbi:o.text[i]?=some (o.text.getD i 0):=by rw[qAE,qAB hlt];rfl
  have hq:=zYs i (by omega)
  have hm:=zTk i
  have hki:i / 8<o.size:=by omega
  obtain⟨w,hw1,hw2,hw3⟩:=zPw hbi hki
  have hwv:=hbd (i / 8) hki
  rw[hw1]at hwv
  have hwl:=(qAA.1 hwv).1
  have hrv:=zUA hw3
  have hai:=zSn a (by omega)
  have hli:(i:Int)<(o.text.length:Int):=by omega
  have hnx:=zQp hbi
  have hld:(w64s now)[(IntKind.i64.wrap ((((2*a:Nat):Int)).fdiv (2 ^ min (1:Int).toNat IntKind.u64.bits))+1+IntKind.i64.wrap ((i:Int).tdiv 8)).toNat]?=some (w64 w):=by
   rw[hq,hai,show ((a:Int)+1+((i / 8:Nat):Int)).toNat=a+1+i / 8 by omega];exact zDe hwv
  clear hB hbd
  skip
  repeat' first|apply en_n|apply zAG|apply zAA|apply zAD|apply w0|exact zCf rfl rfl|exact zAL rfl|(apply zVO;exact rfl;exact rfl;exact(by decide))|(apply zVN;exact rfl;exact rfl;exact(by decide))|(apply zLj;exact rfl;exact rfl;first|exact(by decide)|omega)|(apply zEA;exact rfl;(first|with_reducible exact zII|with_reducible exact su64|with_reducible exact si64);(first|with_reducible exact uu8|with_reducible exact uint|with_reducible exact ui64))|(apply zBM;exact rfl;exact rfl;exact rfl;(first|with_reducible exact zBY|with_reducible exact zVt);omega;(first|(rw[zAm];omega)|(rw[zJ5];omega)))|exact zCR rfl zBU rfl hld rfl|(refine zGf rfl rfl rfl zYt rfl rfl ?_ rfl ?_)|apply ay (hd:=rfl)|exact zAF rfl|exact zAB rfl|refine zBG rfl rfl ?_|refine zaA rfl rfl ?_|exact zAz rfl|exact zAH rfl|exact zAC rfl zCw|exact zAE rfl zBJ rfl rfl|(refine w0' ?_)|refine zAI rfl ?_|apply zAK|apply zAR|apply eb_n
  all_goals first|omega|(rw[zJ5];omega)|skip
  refine⟨i+1,by omega,by omega,?_⟩
  refine zAS (Le_all rfl) (zAN rfl rfl (zAN rfl rfl (zAN rfl rfl (zAN rfl rfl (zAo rfl rfl ?_ zAs))))) rfl rfl
  rw[<-hnx]
  exact congrArg _ (congrArg (fun x=>D.val (.int .u8 x)) hrv.symm)
 ·have e:i=o.text.length:=by omega
  have hli:¬(i:Int)<(o.text.length:Int):=by omega
  subst e
  rw[zTi]
  refine zCo 4 rfl rfl ?_
  skip
  repeat' first|apply en_n|apply zAG|apply zAA|apply zAD|apply w0|(refine zBQ ?_)|(refine zBp ?_)|exact zCh|(refine RV_d rfl ?_ ?_)|(with_reducible exact rfl)|exact zCY rfl rfl|(apply zbF (l:=o.text);exact zCp rfl rfl (zJ5 _).symm;with_reducible exact uu8s;with_reducible exact uu8;with_reducible exact ustr)|apply ay (hd:=rfl)|exact zAB rfl|exact zAz rfl|refine zAJ rfl ?_|apply zAQ|apply zBX|apply en_e|apply eb_e
end Go.Proofs.YtcagoomibpcdlaaGreatDoor
