/- Parts of the proof. -/
import Derived.Test.YtcagoomibpcdlaaGreatDoorMAM
set_option maxHeartbeats 16000000
namespace Go.Proofs.YtcagoomibpcdlaaGreatDoor
open _root_.Go.Proofs.Tryz
open Go.Sx Go.Vm
theorem len3{bs:List Nat}(h:bs.length=3): ∃a b c,bs=[a,b,c]:=by
 match bs,h with
 |[a,b,c],_=>exact⟨a,b,c,rfl⟩
theorem zXN(n:Nat): (bls (List.replicate n false)).map SV.d=(List.replicate n (SV.d (bl false))).take (bls (List.replicate n false)).length:=by
 rw[zGE,qAp,qAi (by rw[qAp];exact qAN _),bls,qBR,qBR]
theorem zS0(i:Nat): (i:Int).tmod 8=((i%8:Nat):Int):=by rw[Int.tmod_eq_emod_of_nonneg (by omega)];omega
theorem zX9(i:Nat)(h:i<=1000000): IntKind.i64.wrap ((i:Int).tdiv 8)=((i / 8:Nat):Int):=by rw[Int.tdiv_eq_ediv_of_nonneg (by omega),zG5];omega
theorem pow8(r:Nat)(h:r<8): (2:Int) ^ min (8*(r:Int)).toNat IntKind.u64.bits=((256 ^ r:Nat):Int):=by
 have:r=0\/r=1\/r=2\/r=3\/r=4\/r=5\/r=6\/r=7:=by omega
 rcases this with rfl|rfl|rfl|rfl|rfl|rfl|rfl|rfl <;> decide
theorem zWa(r:Nat)(h:r<8): 256*256 ^ r<=18446744073709551616:=by
 have:r=0\/r=1\/r=2\/r=3\/r=4\/r=5\/r=6\/r=7:=by omega
 rcases this with rfl|rfl|rfl|rfl|rfl|rfl|rfl|rfl <;> decide
theorem zTf(s:List UInt8)(i:Nat)(b:UInt8): IntKind.u64.wrap (BitVec.ofInt IntKind.u64.bits ((zEf (((s.take i).drop (8*(i / 8))).take 8):Nat):Int) ||| BitVec.ofInt IntKind.u64.bits (IntKind.u64.wrap (IntKind.u64.wrap (b.toNat:Int)*2 ^ min (8*((i:Int).tmod 8)).toNat IntKind.u64.bits))).toNat=((zEf (((s.take i).drop (8*(i / 8))).take 8)+b.toNat*256 ^ (i%8):Nat):Int):=by
 have hr:i%8<8:=Nat.mod_lt _ (by decide)
 have hb:b.toNat<256:=b.toNat_lt
 have hp:=zWa (i%8) hr
 have hm:b.toNat*256 ^ (i%8)<=255*256 ^ (i%8):=qAc _ (by omega)
 have h0:0<256 ^ (i%8):=Nat.pow_pos (by decide)
 have e1:IntKind.u64.wrap (IntKind.u64.wrap (b.toNat:Int)*2 ^ min (8*((i:Int).tmod 8)).toNat IntKind.u64.bits)=((b.toNat*256 ^ (i%8):Nat):Int):=by
  rw[zS0,pow8 _ hr,zDl,zDl,show ((b.toNat:Int)%18446744073709551616)=(b.toNat:Int) by omega,<-Int.natCast_mul]
  omega
 have hl:zEf (((s.take i).drop (8*(i / 8))).take 8)<18446744073709551616:=by
  have h1:=zIm (((s.take i).drop (8*(i / 8))).take 8)
  have h2:(((s.take i).drop (8*(i / 8))).take 8).length<=8:=by rw[qAJ];omega
  have h3:256 ^ (((s.take i).drop (8*(i / 8))).take 8).length<=256 ^ 8:=Nat.pow_le_pow_right (by decide) h2
  have h4:(256:Nat) ^ 8=18446744073709551616:=by decide
  omega
 rw[e1,or64 hl (by omega),zWc]
theorem zTO{w i:Nat}{b:UInt8}(h:w / 256 ^ (i%8)%256=b.toNat): IntKind.u8.wrap ((w:Int).fdiv (2 ^ min (8*((i:Int).tmod 8)).toNat IntKind.u64.bits))=(b.toNat:Int):=by
 have hr:i%8<8:=Nat.mod_lt _ (by decide)
 rw[zS0,pow8 _ hr,qBY _ (Int.natCast_nonneg _),<-Int.natCast_ediv,<-h]
 simp[IntKind.wrap,IntKind.bits,IntKind.signed]
def txtR(s:List UInt8)(i:Nat): List UInt8:=s.take i++List.replicate (s.length-i) 0
theorem zX5(s:List UInt8): txtR s 0=List.replicate s.length 0:=by simp[txtR]
theorem zSx(s:List UInt8): txtR s s.length=s:=by simp[txtR]
theorem zSw(s:List UInt8){i:Nat}(h:i<=s.length): (txtR s i).length=s.length:=by simp[txtR];omega
theorem zQA{s:List UInt8}{i:Nat}{b:UInt8}(h:s[i]?=some b): (bys (txtR s i)).set i (.val (.int .u8 b.toNat))=bys (txtR s (i+1)):=by
 obtain⟨hl,e⟩:=qAA.1 h
 rw[bys,bys,show D.val (.int .u8 (b.toNat:Int))=(fun b:UInt8=>D.val (.int .u8 b.toNat)) b from rfl,<-List.map_set]
 congr 1
 unfold txtR
 rw[qBN _ _ (by simp;omega),qAJ,qBr (Nat.le_of_lt hl),qBF,show s.length-i=(s.length-(i+1))+1 by omega,List.replicate_succ,qBg,qBO,h]
 simp
theorem zYA: zBF prog 5=some (false,1):=by kernel_rfl
theorem zZY: zIz prog 5=some (.val (.int .u8 0)):=by kernel_rfl
theorem zMr{C:Ctx}{Q:Exit->Sl->List Ob->Prop}{σ:Sl}{η:List Ob}(h:Stop (awp C .ret Q σ η)): awp C .ret Q σ η:=by
 unfold Stop at h;exact h
attribute [local irreducible] zAN Program.underlying Ylds zA9 alex zB3 zBf awp zAi zCC zCB zAU zBl zAz zBq zBj zBB zBr zB2 zB8 zBi zBd zBg
theorem zXo(n:Int)(h:n<16\/1048576<n): zAi prog 19 [i64 n] (.tup [.val (.pointer none),i64 200]):=by
 refine zED func19 rfl ntmps19 results19 rfl ?_
 intro wb St0
 rcases h with h|h
 ·skip
  repeat' first|apply en_n|apply zAH|apply zAA|apply zAD|apply w0|(refine zBu ?_)|(refine zCJ ?_)|exact zDC|(refine RV_d rfl ?_ ?_)|(with_reducible exact rfl)|exact zC9 rfl rfl|(apply k0u (hd:=rfl);exact rfl;exact rfl)|apply ay (hd:=rfl)|exact zAF rfl|exact zAB rfl|exact zAa rfl rfl|refine zAI rfl ?_|apply zAQ|apply en_r
 ·have h2:¬n<16:=by omega
  skip
  repeat' first|apply en_n|apply zAH|apply zAA|apply zAD|apply w0|(refine zBu ?_)|(refine zCJ ?_)|exact zDC|(refine RV_d rfl ?_ ?_)|(with_reducible exact rfl)|exact zCm rfl rfl|exact zEk rfl rfl|apply ay (hd:=rfl)|exact zAF rfl|exact zAB rfl|exact zAX rfl rfl|refine w1 rfl rfl ?_|refine zAI rfl ?_|apply zAQ|apply en_r
theorem zVX(n:Nat)(h:16<=n/\n<=1048576): zAU prog 19 [.d (i64 (n:Int))] [] (.pair (.ptr 0 0) (.d (i64 0))) (HO (n:Int) [] [] (List.replicate n false)):=by
 refine zFR func19 rfl ntmps19 results19 rfl rfl rfl ?_
 intro wb St0 X fx
 have h1:¬(n:Int)<16:=by omega
 have h2:¬(n:Int)>1048576:=by omega
 repeat' first|(refine zMr ?_)|(refine zRw [.y (.d (i64 (n:Int))),.mk ⟨11,58,0,n,w64 0⟩,.y (.d (i64 (n:Int))),.mk ⟨13,58,0,n,w64 0⟩,.y (.d (i64 (n:Int))),.y (.d (i64 (n:Int))),.mk ⟨16,4,n,n,bl false⟩] (by kernel_rfl) (by kernel_rfl) (.inr (by kernel_rfl)) ⟨⟨⟨rfl,zAF rfl⟩,rfl⟩,⟨⟨⟨_,_,_,_,_,_,rfl,rfl,rfl,qAX _,zCS,zBQ,zd_w,rfl,zD0,(show n*8<=_ by omega),(show n<=_ by omega)⟩,rfl,rfl,(by kernel_rfl)⟩,rfl⟩,⟨⟨rfl,zAF rfl⟩,rfl⟩,⟨⟨⟨_,_,_,_,_,_,rfl,rfl,rfl,qAX _,zCS,zBQ,zd_w,rfl,zD0,(show n*8<=_ by omega),(show n<=_ by omega)⟩,rfl,rfl,(by kernel_rfl)⟩,rfl⟩,⟨⟨rfl,zAF rfl⟩,rfl⟩,⟨⟨rfl,zAF rfl⟩,rfl⟩,⟨⟨⟨_,_,_,_,_,_,rfl,rfl,rfl,qAN _,zLL,zGm,zd_b,rfl,zNd,(show n*1<=_ by omega),(show n<=_ by omega)⟩,rfl,rfl,(by kernel_rfl)⟩,rfl⟩,trivial⟩ ?_;intro bs hbs;obtain⟨b1,b2,b3,rfl⟩:=len3 hbs)|apply en_n|apply zAH|apply zAA|apply zAD|apply w0|exact zBY zSn zSg (PD_d rfl rfl (PD_d rfl rfl (PD_d rfl rfl (PD_d rfl rfl zCf)))) rfl|(refine zBv (by kernel_rfl) ?_;apply aBox;exact rfl;exact rfl;exact rfl;exact rfl)|exact zCm rfl rfl|exact zDs rfl rfl|apply ay (hd:=rfl)|exact zAF rfl|exact zAB rfl|exact zAX rfl rfl|exact zFZ rfl|refine w1 rfl rfl ?_|refine zAJ rfl ?_|apply zAS
 all_goals first|omega|skip
 refine Stop.go ?_
 refine zDa (s:=[(2,.ptr 3 0),(3,.d (i64 0))]) (h:=[.bx (some b1) (some 58) ((List.replicate n (w64 0)).map SV.d),.bx (some b2) (some 58) ((List.replicate n (w64 0)).map SV.d),.bx (some b3) (some 4) ((List.replicate n (bl false)).map SV.d),.box [.d (.val (.slice (some ⟨b1,0,none⟩) 0 n)),.d (.val (.slice (some ⟨b2,0,none⟩) 0 n)),.d (i64 (n:Int)),.d (.val (.slice (some ⟨b3,0,none⟩) n n))]]) ?_ ?_
 ·exact zAT (Le_all rfl) (zAO rfl (congrArg (Ob.bx _ _) qBR) (zAO rfl (congrArg (Ob.bx _ _) qBR) (zAO rfl (congrArg (Ob.bx _ _) qBR) (zAO rfl rfl zAt)))) rfl (by simp only[List.all_cons,List.all_nil,Ob.below,zJA];rfl)
 refine zHP 0 3 0 0 n b1 (xs:=w64s []) rfl rfl rfl rfl (by simp) rfl (qAX _) (by simp only[maxLen];omega) (fun d hd=>by simp[w64s]at hd) ?_
 refine zDa (s:=[(2,.ptr 3 0),(3,.d (i64 0))]) (h:=[.buf true 58 1 (w64s []),.bx (some b2) (some 58) ((List.replicate n (w64 0)).map SV.d),.bx (some b3) (some 4) ((List.replicate n (bl false)).map SV.d),.box [.buf 0 0,.d (.val (.slice (some ⟨b2,0,none⟩) 0 n)),.d (i64 (n:Int)),.d (.val (.slice (some ⟨b3,0,none⟩) n n))]]) ?_ ?_
 ·exact zAT (Le_all rfl) (zAn rfl rfl rfl (zAO rfl (zIj 0 _ _ _).symm (zAO rfl (zIj 0 _ _ _).symm (zAO rfl rfl zAt)))) rfl (by simp only[List.all_cons,List.all_nil,Ob.below,zJA];rfl)
 refine zHP 1 3 1 0 n b2 (xs:=w64s []) rfl rfl rfl rfl (by simp) rfl (qAX _) (by simp only[maxLen];omega) (fun d hd=>by simp[w64s]at hd) ?_
 refine zDa (s:=[(2,.ptr 3 0),(3,.d (i64 0))]) (h:=[.buf true 58 1 (w64s []),.buf true 58 1 (w64s []),.bx (some b3) (some 4) ((List.replicate n (bl false)).map SV.d),.box [.buf 0 0,.buf 1 0,.d (i64 (n:Int)),.d (.val (.slice (some ⟨b3,0,none⟩) n n))]]) ?_ ?_
 ·exact zAT (Le_all rfl) (zAn rfl rfl rfl (zAn rfl rfl rfl (zAO rfl (zIj 1 _ _ _).symm (zAO rfl rfl zAt)))) rfl (by simp only[List.all_cons,List.all_nil,Ob.below,zJA];rfl)
 refine zHP 2 3 3 n n b3 (xs:=bls (List.replicate n false)) rfl rfl rfl rfl (by simp) (by rw[zXN,qBR]) (by rw[zGE,qAp];exact qAN _) (by simp only[maxLen];omega) (fun d hd=>by obtain⟨x,_,rfl⟩:=qBE.1 hd;rfl) ?_
 refine zDa (s:=[(2,.ptr 3 0),(3,.d (i64 0))]) (h:=[.buf true 58 1 (w64s []),.buf true 58 1 (w64s []),.buf true 4 1 (bls (List.replicate n false)),.box [.buf 0 0,.buf 1 0,.d (i64 (n:Int)),.buf 2 n]]) ?_ ?_
 ·exact zAT (Le_all rfl) (zAn rfl rfl rfl (zAn rfl rfl rfl (zAn rfl rfl rfl (zAO rfl rfl zAt)))) rfl (rfl)
 refine zHt 0 3 rfl rfl rfl rfl ?_
 refine zHt 1 3 rfl rfl rfl rfl ?_
 refine zHt 2 3 rfl rfl rfl rfl ?_
 refine zDa (s:=[(2,.ptr 0 0),(3,.d (i64 0))]) (h:=[.box [.buf 1 0,.buf 2 0,.d (i64 (n:Int)),.buf 3 n],.buf true 58 1 (w64s []),.buf true 58 1 (w64s []),.buf true 4 1 (bls (List.replicate n false))]) ?_ ?_
 ·exact zAT (Le_all rfl) (zAO rfl rfl (zAn rfl rfl rfl (zAn rfl rfl rfl (zAn rfl rfl rfl zAt)))) rfl (rfl)
 refine zAQ ?_
 exact zDF ⟨zAT (Le_all rfl) (zAO rfl (by show Ob.bx _ _ [_,_,_,.buf 3 (List.replicate n false).length]=_;rw[qAp];rfl) (zAn rfl rfl rfl (zAn rfl rfl rfl (zAn rfl rfl rfl zAt)))) rfl rfl,rfl⟩
theorem zMg(size:Int)(now other:List Nat)(beg:List Bool)(s:List UInt8)(hl:s.length<=200)(hs:0<=size/\size<=1048576)(hn:now.length+(zBy s).need<=size)(hb:beg.length=size):
  zAU prog 127 [.ptr 0 0,.d (str s)] (HO size now other beg) (.d (.tup [w64 (2*now.length),bl true])) (HO size (now++zCt (zBy s)::zFc (zBy s).size s) other (beg.set now.length true)):=by
 have hnz:(zBy s).need=1+(s.length+7) / 8:=rfl
 have hsz:(zBy s).size=(s.length+7) / 8:=by unfold Thing.size;omega
 have hho:HeadOk (zBy s):=⟨by show (1:Int)<=4/\(4:Int)<=4;omega,by show (0:Int)<=(s.length:Int)/\(s.length:Int)<=1048576;omega,by rw[hsz];omega⟩
 have hH:=zRQ (zBy s) hho
 have hN:=zHR s (by omega)
 have hP:=zYe size now other beg (zCt (zBy s)) (zFc (zBy s).size s) 0 (zBy s).size hs (by omega) hb (by rw[zDm];omega) (by rw[zDm];omega)
 rw[List.drop_zero,qAi (by rw[zDm];exact qAN _)]at hP
 have g1:¬(s.length:Int)>200:=by omega
 have hk:(((s.length+7) / 8+1:Nat):Int)-1=((zBy s).size:Int):=by rw[hsz];omega
 refine zJL func127 rfl ntmps127 results127 rfl rfl rfl ?_
 intro wb St0 X fx
 repeat' first|apply en_n|apply zAH|apply zAA|apply zAD|apply w0|(apply zEh;exact rfl;with_reducible exact ustr)|exact zDs rfl rfl|(refine zAb zEg hN (zAY rfl zAM))|(apply zXY (n:=((zBy s).size:Int));(refine(congrArg (fun x=>SV.d (D.val (.int .i64 x))) hk));(refine(congrArg (fun x=>SV.d (D.val (.int .i64 x))) hk));(with_reducible exact zCS);(with_reducible exact zBQ);(with_reducible exact zd_w);exact rfl;exact rfl;(with_reducible exact zD0);exact rfl;exact rfl;omega)|apply ay (hd:=rfl)|exact zAF rfl|exact zAB rfl|refine zDb rfl rfl ?_|exact zAy rfl|refine zAJ rfl ?_|apply zAL|apply zAS
 all_goals first|omega|skip
 refine zBW (α:=Nat) (fun i=>i<=s.length) (fun i=>[(0,.ptr 0 0),(1,.d (str s)),(6,.buf 4 (zBy s).size),(16,.d (i64 (s.length:Int))),(17,.d (i64 (i:Int)))]) (fun i=>anch fx 0 (HO size now other beg) (HX size now other beg (zFc (zBy s).size (s.take i)))) (fun i=>s.length-i) 0 (qAX _)
  (zAT (Le_all rfl) (zAO rfl rfl (zAO rfl rfl (zAO rfl rfl (zAO rfl rfl (zAn rfl rfl (by rw[List.take_zero,zQ1,w64s,qBR];rfl) zAt))))) rfl rfl) ?_
 intro i hi
 rcases qAR i s.length with hlt|hge
 ·have hbi:s[i]?=some (s.getD i 0):=by rw[qAD,qAB hlt];rfl
  have hq:=zX9 i (by omega)
  have hm:=zS0 i
  have hpv:=zTf s i (s.getD i 0)
  have hki:i / 8<(zBy s).size:=by omega
  have hpn:=zPK hbi hki
  have hpl:=zDm (zBy s).size (s.take i)
  have hli:(i:Int)<(s.length:Int):=by omega
  have hld:(w64s (zFc (zBy s).size (s.take i)))[(IntKind.i64.wrap ((i:Int).tdiv 8)).toNat]?=some (w64 (zEf (((s.take i).drop (8*(i / 8))).take 8))):=by rw[hq,qAj];exact zDe (zEV _ _ _ hki)
  clear hP hH hN
  skip
  repeat' first|apply en_n|apply zAH|apply zAA|apply zAD|apply w0|(apply zSF;exact rfl;exact rfl;with_reducible exact ustr;(first|assumption|omega))|exact zC9 rfl rfl|(apply zR9;exact rfl;exact rfl;exact(by decide))|(apply zUg;exact rfl;exact rfl;exact(by decide))|(apply zMU;exact rfl;exact rfl;omega)|exact Y_or rfl rfl|(apply zD6;exact rfl;(first|with_reducible exact su8|with_reducible exact si64|with_reducible exact su64|with_reducible exact zH2);(first|with_reducible exact zIT|with_reducible exact uint|with_reducible exact ui64))|(apply zBZ;exact rfl;exact rfl;exact rfl;(with_reducible exact zBQ);omega;(rw[zAl];omega))|exact zCl rfl zBO rfl hld rfl|(refine zBv (by kernel_rfl) ?_;refine zGb rfl rfl rfl zBO rfl rfl ?_ rfl ?_)|apply ay (hd:=rfl)|exact zAF rfl|exact zAB rfl|refine zBE rfl rfl ?_|refine zZK rfl rfl ?_|exact zBP rfl|(refine w0' ?_)|refine zAI rfl ?_|apply zAL|apply zAS|refine zAj (by kernel_rfl) (by kernel_rfl) ?_|apply eb_n
  all_goals first|omega|(rw[zAl];omega)|skip
  refine⟨i+1,by omega,by omega,?_⟩
  refine zAT (Le_all rfl) (zAO rfl rfl (zAO rfl rfl (zAO rfl rfl (zAO rfl rfl (zAn rfl rfl ?_ zAt))))) rfl rfl
  rw[<-hpn,<-zHU]
  exact congr (congrArg _ (by rw[hq,qAj])) (zI2 hpv).symm
 ·have e:i=s.length:=by omega
  have hli:¬(i:Int)<(s.length:Int):=by omega
  subst e
  rw[qA4]
  skip
  repeat' first|exact zSC rfl|apply en_n|apply zAH|apply zAA|apply zAD|apply w0|(apply zEh;exact rfl;with_reducible exact ustr)|exact zCm rfl rfl|exact zGd rfl zCq|(refine zAb zIM hH (zAY rfl (zAY rfl (zAY rfl zAM))))|(refine zGc [0,1,2,3,4] zL3 (hP) (SArgs_all rfl) rfl rfl (by decide) rfl rfl rfl rfl rfl rfl ?_)|apply ay (hd:=rfl)|exact zAF rfl|exact zAB rfl|exact zAg rfl rfl|exact zAG rfl|refine zAJ rfl ?_|apply zAQ|apply zBc|apply en_e|apply eb_e
  all_goals first|omega|skip
  all_goals exact zGu (zCJ (RV_d rfl (RV_d rfl zDC rfl) rfl)) (zAT Le_nil (zAO rfl rfl (zAO rfl rfl (zAO rfl rfl (zAO rfl rfl zAt)))) rfl rfl)
theorem zXi(size:Int)(now other:List Nat)(beg:List Bool){a:Nat}{o:Thing}(h:now[a]?=some (zCt o))(ho:HeadOk o)(hk:o.kind=4)(htg:o.tag=o.text.length)(hl:o.text.length<=200)(hn:now.length<=1048576)(hb:beg[a]?=some true)(hbd:∀q,q<o.size->now[a+1+q]?=(zFc o.size o.text)[q]?):
  zAz prog 55 [.ptr 0 0,.d (w64 (2*a))] (HO size now other beg) (.tup [str o.text,bl true]):=by
 have hB:=zIy size now other beg h ho hn hb
 rw[if_pos hk]at hB
 have hsz:o.size=(o.text.length+7) / 8:=by unfold Thing.size Thing.need;rw[if_pos hk];omega
 have hne:¬o.kind≠4:=fun c=>c hk
 have hal:=(qAA.1 h).1
 refine zHd func55 rfl ntmps55 results55 rfl ?_
 intro wb St0
 repeat' first|apply en_n|apply zAH|apply zAA|apply zAD|apply w0|exact zFI rfl rfl|(refine zAW [0,1,2,3] [] rfl rfl zCi (hB) rfl (SArgs_all rfl) rfl (by decide) rfl rfl rfl rfl)|(apply zXY (n:=(o.text.length:Int));(refine(congrArg (fun x=>SV.d (D.val (.int .i64 x))) htg));(refine(congrArg (fun x=>SV.d (D.val (.int .i64 x))) htg));(with_reducible exact zXF);(with_reducible exact zVC);(with_reducible exact zZY);exact rfl;exact rfl;(with_reducible exact zY4);exact rfl;exact rfl;omega)|apply ay (hd:=rfl)|exact zAF rfl|exact zAB rfl|exact zBX rfl|exact zAX rfl rfl|exact zAg rfl rfl|exact zBP rfl|exact zAy rfl|exact zA5 rfl zYx|exact zAG rfl|refine w1 rfl rfl ?_|refine zAJ rfl ?_|apply zAL|apply zAS
 all_goals first|omega|skip
 refine zBW (α:=Nat) (fun i=>i<=o.text.length) (fun i=>[(0,.ptr 0 0),(1,.d (w64 (2*a))),(10,.buf 4 o.text.length),(29,.d (i64 (o.text.length:Int))),(30,.d (i64 (i:Int)))]) (fun i=>HO size now other beg++[.buf true 5 1 (bys (txtR o.text i))]) (fun i=>o.text.length-i) 0 (qAX _)
  (zAT (Le_all rfl) (zAO rfl rfl (zAO rfl rfl (zAO rfl rfl (zAO rfl rfl (zAn rfl rfl (by rw[zX5,bys,qBR];rfl) zAt))))) rfl rfl) ?_
 intro i hi
 have htl:=zSw o.text hi
 rcases qAR i o.text.length with hlt|hge
 ·have hbi:o.text[i]?=some (o.text.getD i 0):=by rw[qAD,qAB hlt];rfl
  have hq:=zX9 i (by omega)
  have hm:=zS0 i
  have hki:i / 8<o.size:=by omega
  obtain⟨w,hw1,hw2,hw3⟩:=zPJ hbi hki
  have hwv:=hbd (i / 8) hki
  rw[hw1]at hwv
  have hwl:=(qAA.1 hwv).1
  have hrv:=zTO hw3
  have hai:=zRz a (by omega)
  have hli:(i:Int)<(o.text.length:Int):=by omega
  have hnx:=zQA hbi
  have hld:(w64s now)[(IntKind.i64.wrap ((((2*a:Nat):Int)).fdiv (2 ^ min (1:Int).toNat IntKind.u64.bits))+1+IntKind.i64.wrap ((i:Int).tdiv 8)).toNat]?=some (w64 w):=by
   rw[hq,hai,show ((a:Int)+1+((i / 8:Nat):Int)).toNat=a+1+i / 8 by omega];exact zDe hwv
  clear hB hbd
  skip
  repeat' first|apply en_n|apply zAH|apply zAA|apply zAD|apply w0|exact zC9 rfl rfl|exact zAK rfl|(apply zR9;exact rfl;exact rfl;exact(by decide))|(apply zUg;exact rfl;exact rfl;exact(by decide))|(apply zLE;exact rfl;exact rfl;first|exact(by decide)|omega)|(apply zD6;exact rfl;(first|with_reducible exact zH2|with_reducible exact su64|with_reducible exact si64);(first|with_reducible exact uu8|with_reducible exact uint|with_reducible exact ui64))|(apply zBZ;exact rfl;exact rfl;exact rfl;(first|with_reducible exact zBQ|with_reducible exact zVC);omega;(first|(rw[zAl];omega)|(rw[zJc];omega)))|exact zCl rfl zBO rfl hld rfl|(refine zGb rfl rfl rfl zYA rfl rfl ?_ rfl ?_)|apply ay (hd:=rfl)|exact zAF rfl|exact zAB rfl|refine zBE rfl rfl ?_|refine zZK rfl rfl ?_|exact zBP rfl|exact zAG rfl|exact zAC rfl zCv|exact zAE rfl zBC rfl rfl|(refine w0' ?_)|refine zAI rfl ?_|apply zAL|apply zAS|apply eb_n
  all_goals first|omega|(rw[zJc];omega)|skip
  refine⟨i+1,by omega,by omega,?_⟩
  refine zAT (Le_all rfl) (zAO rfl rfl (zAO rfl rfl (zAO rfl rfl (zAO rfl rfl (zAn rfl rfl ?_ zAt))))) rfl rfl
  rw[<-hnx]
  exact congrArg _ (congrArg (fun x=>D.val (.int .u8 x)) hrv.symm)
 ·have e:i=o.text.length:=by omega
  have hli:¬(i:Int)<(o.text.length:Int):=by omega
  subst e
  rw[zSx]
  refine zCx 4 rfl rfl ?_
  skip
  repeat' first|apply en_n|apply zAH|apply zAA|apply zAD|apply w0|(refine zBu ?_)|(refine zCJ ?_)|exact zDC|(refine RV_d rfl ?_ ?_)|(with_reducible exact rfl)|exact zCm rfl rfl|(apply zaI (l:=o.text);exact zC3 rfl rfl (zJc _).symm;with_reducible exact uu8s;with_reducible exact uu8;with_reducible exact ustr)|apply ay (hd:=rfl)|exact zAB rfl|exact zBP rfl|refine zAJ rfl ?_|apply zAQ|apply zBc|apply en_e|apply eb_e
end Go.Proofs.YtcagoomibpcdlaaGreatDoor
