/- Texts of this claim, merged: VmO. -/
import Derived.Test.YtcagoomibpcdlaaGreatDoorMAB
import Derived.Test.YtcagoomibpcdlaaGreatDoorMAG
import Derived.Test.YtcagoomibpcdlaaGreatDoorMAL
namespace Go.Proofs.YtcagoomibpcdlaaGreatDoor
open Go.Sx Go.Vm
theorem len3{bs:List Nat}(h:bs.length=3): ∃a b c,bs=[a,b,c]:=by
 match bs,h with
 |[a,b,c],_=>exact⟨a,b,c,rfl⟩
theorem zWW(n:Nat): (bls (List.replicate n false)).map SV.d=(List.replicate n (SV.d (bl false))).take (bls (List.replicate n false)).length:=by
 rw[zFv,List.length_replicate,List.take_of_length_le (by rw[List.length_replicate];exact Nat.le_refl _),bls,List.map_replicate,List.map_replicate]
theorem zSN(i:Nat): (i:Int).tmod 8=((i%8:Nat):Int):=by rw[Int.tmod_eq_emod_of_nonneg (by omega)];omega
theorem zXJ(i:Nat)(h:i≤1000000): IntKind.i64.wrap ((i:Int).tdiv 8)=((i / 8:Nat):Int):=by rw[Int.tdiv_eq_ediv_of_nonneg (by omega),zGn];omega
theorem pow8(r:Nat)(h:r<8): (2:Int) ^ min (8*(r:Int)).toNat IntKind.u64.bits=((256 ^ r:Nat):Int):=by
 have:r=0∨r=1∨r=2∨r=3∨r=4∨r=5∨r=6∨r=7:=by omega
 rcases this with rfl|rfl|rfl|rfl|rfl|rfl|rfl|rfl <;> decide
theorem zVj(r:Nat)(h:r<8): 256*256 ^ r≤18446744073709551616:=by
 have:r=0∨r=1∨r=2∨r=3∨r=4∨r=5∨r=6∨r=7:=by omega
 rcases this with rfl|rfl|rfl|rfl|rfl|rfl|rfl|rfl <;> decide
theorem zSz(s:List UInt8)(i:Nat)(b:UInt8): IntKind.u64.wrap (BitVec.ofInt IntKind.u64.bits ((zEY (((s.take i).drop (8*(i / 8))).take 8):Nat):Int) ||| BitVec.ofInt IntKind.u64.bits (IntKind.u64.wrap (IntKind.u64.wrap (b.toNat:Int)*2 ^ min (8*((i:Int).tmod 8)).toNat IntKind.u64.bits))).toNat=((zEY (((s.take i).drop (8*(i / 8))).take 8)+b.toNat*256 ^ (i%8):Nat):Int):=by
 have hr:i%8<8:=Nat.mod_lt _ (by decide)
 have hb:b.toNat<256:=b.toNat_lt
 have hp:=zVj (i%8) hr
 have hm:b.toNat*256 ^ (i%8)≤255*256 ^ (i%8):=Nat.mul_le_mul_right _ (by omega)
 have h0:0<256 ^ (i%8):=Nat.pow_pos (by decide)
 have e1:IntKind.u64.wrap (IntKind.u64.wrap (b.toNat:Int)*2 ^ min (8*((i:Int).tmod 8)).toNat IntKind.u64.bits)=((b.toNat*256 ^ (i%8):Nat):Int):=by
  rw[zSN,pow8 _ hr,zDZ,zDZ,show ((b.toNat:Int)%18446744073709551616)=(b.toNat:Int) by omega,←Int.natCast_mul]
  omega
 have hl:zEY (((s.take i).drop (8*(i / 8))).take 8)<18446744073709551616:=by
  have h1:=zIS (((s.take i).drop (8*(i / 8))).take 8)
  have h2:(((s.take i).drop (8*(i / 8))).take 8).length≤8:=by rw[List.length_take];omega
  have h3:256 ^ (((s.take i).drop (8*(i / 8))).take 8).length≤256 ^ 8:=Nat.pow_le_pow_right (by decide) h2
  have h4:(256:Nat) ^ 8=18446744073709551616:=by decide
  omega
 rw[e1,or64 hl (by omega),zVl]
theorem zSl{w i:Nat}{b:UInt8}(h:w / 256 ^ (i%8)%256=b.toNat): IntKind.u8.wrap ((w:Int).fdiv (2 ^ min (8*((i:Int).tmod 8)).toNat IntKind.u64.bits))=(b.toNat:Int):=by
 have hr:i%8<8:=Nat.mod_lt _ (by decide)
 rw[zSN,pow8 _ hr,Int.fdiv_eq_ediv_of_nonneg _ (Int.natCast_nonneg _),←Int.natCast_ediv,←h]
 simp[IntKind.wrap,IntKind.bits,IntKind.signed]
def txtR(s:List UInt8)(i:Nat): List UInt8:=s.take i++List.replicate (s.length-i) 0
theorem zXF(s:List UInt8): txtR s 0=List.replicate s.length 0:=by simp[txtR]
theorem zSK(s:List UInt8): txtR s s.length=s:=by simp[txtR]
theorem zSJ(s:List UInt8){i:Nat}(h:i≤s.length): (txtR s i).length=s.length:=by simp[txtR];omega
theorem zPZ{s:List UInt8}{i:Nat}{b:UInt8}(h:s[i]?=some b): (bys (txtR s i)).set i (.val (.int .u8 b.toNat))=bys (txtR s (i+1)):=by
 obtain⟨hl,e⟩:=List.getElem?_eq_some_iff.1 h
 rw[bys,bys,show D.val (.int .u8 (b.toNat:Int))=(fun b:UInt8=>D.val (.int .u8 b.toNat)) b from rfl,←List.map_set]
 congr 1
 unfold txtR
 rw[List.set_append_right _ _ (by simp;omega),List.length_take,Nat.min_eq_left (Nat.le_of_lt hl),Nat.sub_self,show s.length-i=(s.length-(i+1))+1 by omega,List.replicate_succ,List.set_cons_zero,List.take_add_one,h]
 simp
theorem zXK: zBH Tryz.prog 5=some (false,1):=by kernel_rfl
theorem zYn: zIf Tryz.prog 5=some (.val (.int .u8 0)):=by kernel_rfl
theorem zMP{C:Ctx}{Q:Exit→Sl→List Ob→Prop}{σ:Sl}{η:List Ob}(h:Stop (awp C .ret Q σ η)): awp C .ret Q σ η:=by
 unfold Stop at h;exact h
attribute [local irreducible] zAQ Program.underlying Ylds zBD alex zCA zBi awp zAp zCI zCH zAW zBw zA5 zB0 zBp zBF zBv zB9 zCE zBn zBm zBs
theorem zWx(n:Int)(h:n<16∨1048576<n): zAp Tryz.prog 19 [i64 n] (.tup [.val (.pointer none),i64 200]):=by
 refine zDy Tryz.func19 rfl Tryz.ntmps19 Tryz.results19 rfl ?_
 intro wb St0
 rcases h with h|h
 ·skip
  repeat' first|apply en_n|apply zAK|apply zAA|apply zAF|apply w0|(refine zBq ?_)|(refine zCJ ?_)|exact zC6|(refine RV_d rfl ?_ ?_)|(with_reducible exact rfl)|(apply zC9;exact rfl;exact rfl;first|assumption|omega)|(apply k0u (hd:=rfl);exact rfl;exact rfl)|apply ay (hd:=rfl)|exact zAJ rfl|exact zAD rfl|exact zAj rfl rfl|(apply zAL;exact rfl)|apply zAT|apply en_r
 ·have h2:¬n<16:=by omega
  skip
  repeat' first|apply en_n|apply zAK|apply zAA|apply zAF|apply w0|(refine zBq ?_)|(refine zCJ ?_)|exact zC6|(refine RV_d rfl ?_ ?_)|(with_reducible exact rfl)|(apply zCk;exact rfl;exact rfl;first|assumption|omega)|(apply zE2;exact rfl;exact rfl;first|assumption|omega)|apply ay (hd:=rfl)|exact zAJ rfl|exact zAD rfl|exact zAc rfl rfl|(apply w1;exact rfl;exact rfl)|(apply zAL;exact rfl)|apply zAT|apply en_r
theorem zUj(n:Nat)(h:16≤n∧n≤1048576): zAW Tryz.prog 19 [.d (i64 (n:Int))] [] (.pair (.ptr 0 0) (.d (i64 0))) (HO (n:Int) [] [] (List.replicate n false)):=by
 refine zFB Tryz.func19 rfl Tryz.ntmps19 Tryz.results19 rfl rfl rfl ?_
 intro wb St0 X fx
 have h1:¬(n:Int)<16:=by omega
 have h2:¬(n:Int)>1048576:=by omega
 repeat' first|(refine zMP ?_)|(refine zRJ [.y (.d (i64 (n:Int))),.mk ⟨11,58,0,n,w64 0⟩,.y (.d (i64 (n:Int))),.mk ⟨13,58,0,n,w64 0⟩,.y (.d (i64 (n:Int))),.y (.d (i64 (n:Int))),.mk ⟨16,4,n,n,bl false⟩] (by kernel_rfl) (by kernel_rfl) (.inr (by kernel_rfl)) ⟨⟨⟨rfl,zAJ rfl⟩,rfl⟩,⟨⟨⟨_,_,_,_,_,_,rfl,rfl,rfl,Nat.zero_le _,zCT,zBS,zd_w,rfl,zDm,(show n*8≤_ by omega),(show n≤_ by omega)⟩,rfl,rfl,(by kernel_rfl)⟩,rfl⟩,⟨⟨rfl,zAJ rfl⟩,rfl⟩,⟨⟨⟨_,_,_,_,_,_,rfl,rfl,rfl,Nat.zero_le _,zCT,zBS,zd_w,rfl,zDm,(show n*8≤_ by omega),(show n≤_ by omega)⟩,rfl,rfl,(by kernel_rfl)⟩,rfl⟩,⟨⟨rfl,zAJ rfl⟩,rfl⟩,⟨⟨rfl,zAJ rfl⟩,rfl⟩,⟨⟨⟨_,_,_,_,_,_,rfl,rfl,rfl,Nat.le_refl _,zKy,zGV,zd_b,rfl,zM8,(show n*1≤_ by omega),(show n≤_ by omega)⟩,rfl,rfl,(by kernel_rfl)⟩,rfl⟩,trivial⟩ ?_;intro bs hbs;obtain⟨b1,b2,b3,rfl⟩:=len3 hbs)|apply en_n|apply zAK|apply zAA|apply zAF|apply w0|(apply zCX;exact zR9;exact zR2;exact PD_d rfl rfl (PD_d rfl rfl (PD_d rfl rfl (PD_d rfl rfl zDR)));exact rfl)|(refine zBr (by kernel_rfl) ?_;apply aBox;exact rfl;exact rfl;exact rfl;exact rfl)|(apply zCk;exact rfl;exact rfl;first|assumption|omega)|(apply zDt;exact rfl;exact rfl;first|assumption|omega)|apply ay (hd:=rfl)|exact zAJ rfl|exact zAD rfl|exact zAc rfl rfl|exact zFI rfl|(apply w1;exact rfl;exact rfl)|(apply zAM;exact rfl)|apply zAU
 all_goals first|omega|skip
 refine Stop.go ?_
 refine zDQ (s:=[(2,.ptr 3 0),(3,.d (i64 0))]) (h:=[.bx (some b1) (some 58) ((List.replicate n (w64 0)).map SV.d),.bx (some b2) (some 58) ((List.replicate n (w64 0)).map SV.d),.bx (some b3) (some 4) ((List.replicate n (bl false)).map SV.d),.box [.d (.val (.slice (some ⟨b1,0,none⟩) 0 n)),.d (.val (.slice (some ⟨b2,0,none⟩) 0 n)),.d (i64 (n:Int)),.d (.val (.slice (some ⟨b3,0,none⟩) n n))]]) ?_ ?_
 ·exact zAV (zAI rfl (zAI rfl zAd)) (zAP rfl (congrArg (Ob.bx _ _) List.map_replicate) (zAP rfl (congrArg (Ob.bx _ _) List.map_replicate) (zAP rfl (congrArg (Ob.bx _ _) List.map_replicate) (zAP rfl rfl zA7)))) rfl (by simp only[List.all_cons,List.all_nil,Ob.below,zIt];rfl)
 refine zHA 0 3 0 0 n b1 (xs:=w64s []) rfl rfl rfl rfl (by simp) rfl (Nat.zero_le _) (by simp only[maxLen];omega) (fun d hd=>by simp[w64s]at hd) ?_
 refine zDQ (s:=[(2,.ptr 3 0),(3,.d (i64 0))]) (h:=[.buf true 58 1 (w64s []),.bx (some b2) (some 58) ((List.replicate n (w64 0)).map SV.d),.bx (some b3) (some 4) ((List.replicate n (bl false)).map SV.d),.box [.buf 0 0,.d (.val (.slice (some ⟨b2,0,none⟩) 0 n)),.d (i64 (n:Int)),.d (.val (.slice (some ⟨b3,0,none⟩) n n))]]) ?_ ?_
 ·exact zAV (zAI rfl (zAI rfl zAd)) (zAo rfl rfl rfl (zAP rfl (zIP 0 _ _ _).symm (zAP rfl (zIP 0 _ _ _).symm (zAP rfl rfl zA7)))) rfl (by simp only[List.all_cons,List.all_nil,Ob.below,zIt];rfl)
 refine zHA 1 3 1 0 n b2 (xs:=w64s []) rfl rfl rfl rfl (by simp) rfl (Nat.zero_le _) (by simp only[maxLen];omega) (fun d hd=>by simp[w64s]at hd) ?_
 refine zDQ (s:=[(2,.ptr 3 0),(3,.d (i64 0))]) (h:=[.buf true 58 1 (w64s []),.buf true 58 1 (w64s []),.bx (some b3) (some 4) ((List.replicate n (bl false)).map SV.d),.box [.buf 0 0,.buf 1 0,.d (i64 (n:Int)),.d (.val (.slice (some ⟨b3,0,none⟩) n n))]]) ?_ ?_
 ·exact zAV (zAI rfl (zAI rfl zAd)) (zAo rfl rfl rfl (zAo rfl rfl rfl (zAP rfl (zIP 1 _ _ _).symm (zAP rfl rfl zA7)))) rfl (by simp only[List.all_cons,List.all_nil,Ob.below,zIt];rfl)
 refine zHA 2 3 3 n n b3 (xs:=bls (List.replicate n false)) rfl rfl rfl rfl (by simp) (by rw[zWW,List.map_replicate]) (by rw[zFv,List.length_replicate];exact Nat.le_refl _) (by simp only[maxLen];omega) (fun d hd=>by obtain⟨x,_,rfl⟩:=List.mem_map.1 hd;rfl) ?_
 refine zDQ (s:=[(2,.ptr 3 0),(3,.d (i64 0))]) (h:=[.buf true 58 1 (w64s []),.buf true 58 1 (w64s []),.buf true 4 1 (bls (List.replicate n false)),.box [.buf 0 0,.buf 1 0,.d (i64 (n:Int)),.buf 2 n]]) ?_ ?_
 ·exact zAV (zAI rfl (zAI rfl zAd)) (zAo rfl rfl rfl (zAo rfl rfl rfl (zAo rfl rfl rfl (zAP rfl rfl zA7)))) rfl (rfl)
 refine zHd 0 3 rfl rfl rfl rfl ?_
 refine zHd 1 3 rfl rfl rfl rfl ?_
 refine zHd 2 3 rfl rfl rfl rfl ?_
 refine zDQ (s:=[(2,.ptr 0 0),(3,.d (i64 0))]) (h:=[.box [.buf 1 0,.buf 2 0,.d (i64 (n:Int)),.buf 3 n],.buf true 58 1 (w64s []),.buf true 58 1 (w64s []),.buf true 4 1 (bls (List.replicate n false))]) ?_ ?_
 ·exact zAV (zAI rfl (zAI rfl zAd)) (zAP rfl rfl (zAo rfl rfl rfl (zAo rfl rfl rfl (zAo rfl rfl rfl zA7)))) rfl (rfl)
 refine zAT ?_
 exact zC8 ⟨zAV (zAI rfl (zAI rfl zAd)) (zAP rfl (by show Ob.bx _ _ [_,_,_,.buf 3 (List.replicate n false).length]=_;rw[List.length_replicate];rfl) (zAo rfl rfl rfl (zAo rfl rfl rfl (zAo rfl rfl rfl zA7)))) rfl rfl,rfl⟩
theorem zME(size:Int)(now other:List Nat)(beg:List Bool)(s:List UInt8)(hl:s.length≤200)(hs:0≤size∧size≤1048576)(hn:now.length+(zB4 s).need≤size)(hb:beg.length=size):
  zAW Tryz.prog 127 [.ptr 0 0,.d (str s)] (HO size now other beg) (.d (.tup [w64 (2*now.length),bl true])) (HO size (now++zCm (zB4 s)::zFL (zB4 s).size s) other (beg.set now.length true)):=by
 have hnz:(zB4 s).need=1+(s.length+7) / 8:=rfl
 have hsz:(zB4 s).size=(s.length+7) / 8:=by unfold Thing.size;omega
 have hho:HeadOk (zB4 s):=⟨by show (1:Int)≤4∧(4:Int)≤4;omega,by show (0:Int)≤(s.length:Int)∧(s.length:Int)≤1048576;omega,by rw[hsz];omega⟩
 have hH:=zQp (zB4 s) hho
 have hN:=zHC s (by omega)
 have hP:=zXp size now other beg (zCm (zB4 s)) (zFL (zB4 s).size s) 0 (zB4 s).size hs (by omega) hb (by rw[zDb];omega) (by rw[zDb];omega)
 rw[List.drop_zero,List.take_of_length_le (by rw[zDb];exact Nat.le_refl _)]at hP
 have g1:¬(s.length:Int)>200:=by omega
 have hk:(((s.length+7) / 8+1:Nat):Int)-1=((zB4 s).size:Int):=by rw[hsz];omega
 refine zI3 Tryz.func127 rfl Tryz.ntmps127 Tryz.results127 rfl rfl rfl ?_
 intro wb St0 X fx
 repeat' first|apply en_n|apply zAK|apply zAA|apply zAF|apply w0|(apply zFx;exact rfl;with_reducible exact ustr)|(apply zDt;exact rfl;exact rfl;first|assumption|omega)|(refine zAh zEZ hN (zAa rfl zAR))|(apply zWg (n:=((zB4 s).size:Int));(refine(congrArg (fun x=>SV.d (D.val (.int .i64 x))) hk));(refine(congrArg (fun x=>SV.d (D.val (.int .i64 x))) hk));(with_reducible exact zCT);(with_reducible exact zBS);(with_reducible exact zd_w);exact rfl;exact rfl;(with_reducible exact zDm);exact rfl;exact rfl;omega)|apply ay (hd:=rfl)|exact zAJ rfl|exact zAD rfl|(apply zDX;exact rfl;exact rfl)|exact zAz rfl|(apply zAM;exact rfl)|apply zAO|apply zAU
 all_goals first|omega|skip
 refine zBo (α:=Nat) (fun i=>i≤s.length) (fun i=>[(0,.ptr 0 0),(1,.d (str s)),(6,.buf 4 (zB4 s).size),(16,.d (i64 (s.length:Int))),(17,.d (i64 (i:Int)))]) (fun i=>anch fx 0 (HO size now other beg) (HX size now other beg (zFL (zB4 s).size (s.take i)))) (fun i=>s.length-i) 0 (Nat.zero_le _)
  (zAV (zAI rfl (zAI rfl (zAI rfl (zAI rfl (zAI rfl zAd))))) (zAP rfl rfl (zAP rfl rfl (zAP rfl rfl (zAP rfl rfl (zAo rfl rfl (by rw[List.take_zero,zQP,w64s,List.map_replicate];rfl) zA7))))) rfl rfl) ?_
 intro i hi
 rcases Nat.lt_or_ge i s.length with hlt|hge
 ·have hbi:s[i]?=some (s.getD i 0):=by rw[List.getD_eq_getElem?_getD,List.getElem?_eq_getElem hlt];rfl
  have hq:=zXJ i (by omega)
  have hm:=zSN i
  have hpv:=zSz s i (s.getD i 0)
  have hki:i / 8<(zB4 s).size:=by omega
  have hpn:=zOi hbi hki
  have hpl:=zDb (zB4 s).size (s.take i)
  have hli:(i:Int)<(s.length:Int):=by omega
  have hld:(w64s (zFL (zB4 s).size (s.take i)))[(IntKind.i64.wrap ((i:Int).tdiv 8)).toNat]?=some (w64 (zEY (((s.take i).drop (8*(i / 8))).take 8))):=by rw[hq,Int.toNat_natCast];exact zDS (zEN _ _ _ hki)
  clear hP hH hN
  skip
  repeat' first|apply en_n|apply zAK|apply zAA|apply zAF|apply w0|(apply zRa;exact rfl;exact rfl;with_reducible exact ustr;(first|assumption|omega))|(apply zC9;exact rfl;exact rfl;first|assumption|omega)|(apply zTz;exact rfl;exact rfl;exact(by decide))|(apply zWi;exact rfl;exact rfl;exact(by decide))|(apply zL1;exact rfl;exact rfl;omega)|exact Y_or rfl rfl|(apply zD5;exact rfl;(first|with_reducible exact su8|with_reducible exact si64|with_reducible exact su64|with_reducible exact zHl);(first|with_reducible exact zIC|with_reducible exact uint|with_reducible exact ui64))|(apply zBY;exact rfl;exact rfl;exact rfl;(with_reducible exact zBS);omega;(rw[zAk];omega))|(apply zCg;exact rfl;(with_reducible exact zBQ);exact rfl;exact hld;exact rfl)|(refine zBr (by kernel_rfl) ?_;refine zGH rfl rfl rfl zBQ rfl rfl ?_ rfl ?_)|apply ay (hd:=rfl)|exact zAJ rfl|exact zAD rfl|(apply zBL;exact rfl;exact rfl)|(apply zYV;exact rfl;exact rfl)|exact zBR rfl|(refine w0' ?_)|(apply zAL;exact rfl)|apply zAO|apply zAU|refine zAr (by kernel_rfl) (by kernel_rfl) ?_|apply eb_n
  all_goals first|omega|(rw[zAk];omega)|skip
  refine⟨i+1,by omega,by omega,?_⟩
  refine zAV (zAI rfl (zAI rfl (zAI rfl (zAI rfl (zAI rfl zAd))))) (zAP rfl rfl (zAP rfl rfl (zAP rfl rfl (zAP rfl rfl (zAo rfl rfl ?_ zA7))))) rfl rfl
  rw[←hpn,←zHE]
  exact congr (congrArg _ (by rw[hq,Int.toNat_natCast])) (zIj hpv).symm
 ·have e:i=s.length:=by omega
  have hli:¬(i:Int)<(s.length:Int):=by omega
  subst e
  rw[List.take_length]
  skip
  repeat' first|exact zRW rfl|apply en_n|apply zAK|apply zAA|apply zAF|apply w0|(apply zFx;exact rfl;with_reducible exact ustr)|(apply zCk;exact rfl;exact rfl;first|assumption|omega)|(apply zGL;exact rfl;(with_reducible exact zCj))|(refine zAh zH5 hH (zAa rfl (zAa rfl (zAa rfl zAR))))|(refine zGI [0,1,2,3,4] zLb (hP) ?_ rfl rfl (by decide) rfl rfl rfl rfl rfl rfl ?_;(repeat (refine zAB rfl ?_));exact zAE)|apply ay (hd:=rfl)|exact zAJ rfl|exact zAD rfl|exact zAm rfl rfl|exact zAH rfl|(apply zAM;exact rfl)|apply zAT|apply zBu|apply en_e|apply eb_e
  all_goals first|omega|skip
  all_goals exact zGb (zCJ (RV_d rfl (RV_d rfl zC6 rfl) rfl)) (zAV zAd (zAP rfl rfl (zAP rfl rfl (zAP rfl rfl (zAP rfl rfl zA7)))) rfl rfl)
theorem zWr(size:Int)(now other:List Nat)(beg:List Bool){a:Nat}{o:Thing}(h:now[a]?=some (zCm o))(ho:HeadOk o)(hk:o.kind=4)(htg:o.tag=o.text.length)(hl:o.text.length≤200)(hn:now.length≤1048576)(hb:beg[a]?=some true)(hbd:∀q,q<o.size→now[a+1+q]?=(zFL o.size o.text)[q]?):
  zA5 Tryz.prog 55 [.ptr 0 0,.d (w64 (2*a))] (HO size now other beg) (.tup [str o.text,bl true]):=by
 have hB:=zIe size now other beg h ho hn hb
 rw[if_pos hk]at hB
 have hsz:o.size=(o.text.length+7) / 8:=by unfold Thing.size Thing.need;rw[if_pos hk];omega
 have hne:¬o.kind≠4:=fun c=>c hk
 have hal:=(List.getElem?_eq_some_iff.1 h).1
 refine zHP Tryz.func55 rfl Tryz.ntmps55 Tryz.results55 rfl ?_
 intro wb St0
 repeat' first|apply en_n|apply zAK|apply zAA|apply zAF|apply w0|(apply zGJ;exact rfl;exact rfl;first|assumption|omega)|(refine zAZ [0,1,2,3] [] rfl rfl zCc (hB) rfl ?_ rfl (by decide) rfl rfl rfl rfl;(repeat (refine zAB rfl ?_));exact zAE)|(apply zWg (n:=(o.text.length:Int));(refine(congrArg (fun x=>SV.d (D.val (.int .i64 x))) htg));(refine(congrArg (fun x=>SV.d (D.val (.int .i64 x))) htg));(with_reducible exact zWN);(with_reducible exact zUT);(with_reducible exact zYn);exact rfl;exact rfl;(with_reducible exact zYF);exact rfl;exact rfl;omega)|apply ay (hd:=rfl)|exact zAJ rfl|exact zAD rfl|exact zBd rfl|exact zAc rfl rfl|exact zAm rfl rfl|exact zBR rfl|exact zAz rfl|(apply zA4;exact rfl;(with_reducible exact zX8))|exact zAH rfl|(apply w1;exact rfl;exact rfl)|(apply zAM;exact rfl)|apply zAO|apply zAU
 all_goals first|omega|skip
 refine zBo (α:=Nat) (fun i=>i≤o.text.length) (fun i=>[(0,.ptr 0 0),(1,.d (w64 (2*a))),(10,.buf 4 o.text.length),(29,.d (i64 (o.text.length:Int))),(30,.d (i64 (i:Int)))]) (fun i=>HO size now other beg++[.buf true 5 1 (bys (txtR o.text i))]) (fun i=>o.text.length-i) 0 (Nat.zero_le _)
  (zAV (zAI rfl (zAI rfl (zAI rfl (zAI rfl (zAI rfl zAd))))) (zAP rfl rfl (zAP rfl rfl (zAP rfl rfl (zAP rfl rfl (zAo rfl rfl (by rw[zXF,bys,List.map_replicate];rfl) zA7))))) rfl rfl) ?_
 intro i hi
 have htl:=zSJ o.text hi
 rcases Nat.lt_or_ge i o.text.length with hlt|hge
 ·have hbi:o.text[i]?=some (o.text.getD i 0):=by rw[List.getD_eq_getElem?_getD,List.getElem?_eq_getElem hlt];rfl
  have hq:=zXJ i (by omega)
  have hm:=zSN i
  have hki:i / 8<o.size:=by omega
  obtain⟨w,hw1,hw2,hw3⟩:=zOh hbi hki
  have hwv:=hbd (i / 8) hki
  rw[hw1]at hwv
  have hwl:=(List.getElem?_eq_some_iff.1 hwv).1
  have hrv:=zSl hw3
  have hai:=zRM a (by omega)
  have hli:(i:Int)<(o.text.length:Int):=by omega
  have hnx:=zPZ hbi
  have hld:(w64s now)[(IntKind.i64.wrap ((((2*a:Nat):Int)).fdiv (2 ^ min (1:Int).toNat IntKind.u64.bits))+1+IntKind.i64.wrap ((i:Int).tdiv 8)).toNat]?=some (w64 w):=by
   rw[hq,hai,show ((a:Int)+1+((i / 8:Nat):Int)).toNat=a+1+i / 8 by omega];exact zDS hwv
  clear hB hbd
  skip
  repeat' first|apply en_n|apply zAK|apply zAA|apply zAF|apply w0|(apply zC9;exact rfl;exact rfl;first|assumption|omega)|exact zAN rfl|(apply zTz;exact rfl;exact rfl;exact(by decide))|(apply zWi;exact rfl;exact rfl;exact(by decide))|(apply zKs;exact rfl;exact rfl;first|exact(by decide)|omega)|(apply zD5;exact rfl;(first|with_reducible exact zHl|with_reducible exact su64|with_reducible exact si64);(first|with_reducible exact uu8|with_reducible exact uint|with_reducible exact ui64))|(apply zBY;exact rfl;exact rfl;exact rfl;(first|with_reducible exact zBS|with_reducible exact zUT);omega;(first|(rw[zAk];omega)|(rw[zJM];omega)))|(apply zCg;exact rfl;(with_reducible exact zBQ);exact rfl;exact hld;exact rfl)|(refine zGH rfl rfl rfl zXK rfl rfl ?_ rfl ?_)|apply ay (hd:=rfl)|exact zAJ rfl|exact zAD rfl|(apply zBL;exact rfl;exact rfl)|(apply zYV;exact rfl;exact rfl)|exact zBR rfl|exact zAH rfl|(apply zAC;exact rfl;(with_reducible exact zCo))|(apply zAG;exact rfl;(with_reducible exact zBC);exact rfl;exact rfl)|(refine w0' ?_)|(apply zAL;exact rfl)|apply zAO|apply zAU|apply eb_n
  all_goals first|omega|(rw[zJM];omega)|skip
  refine⟨i+1,by omega,by omega,?_⟩
  refine zAV (zAI rfl (zAI rfl (zAI rfl (zAI rfl (zAI rfl zAd))))) (zAP rfl rfl (zAP rfl rfl (zAP rfl rfl (zAP rfl rfl (zAo rfl rfl ?_ zA7))))) rfl rfl
  rw[←hnx]
  exact congrArg _ (congrArg (fun x=>D.val (.int .u8 x)) hrv.symm)
 ·have e:i=o.text.length:=by omega
  have hli:¬(i:Int)<(o.text.length:Int):=by omega
  subst e
  rw[zSK]
  refine zCq 4 rfl rfl ?_
  skip
  repeat' first|apply en_n|apply zAK|apply zAA|apply zAF|apply w0|(refine zBq ?_)|(refine zCJ ?_)|exact zC6|(refine RV_d rfl ?_ ?_)|(with_reducible exact rfl)|(apply zCk;exact rfl;exact rfl;first|assumption|omega)|(apply zZX (l:=o.text);exact zDn rfl rfl (zJM _).symm;with_reducible exact uu8s;with_reducible exact uu8;with_reducible exact ustr)|apply ay (hd:=rfl)|exact zAD rfl|exact zBR rfl|(apply zAM;exact rfl)|apply zAT|apply zBu|apply en_e|apply eb_e
end Go.Proofs.YtcagoomibpcdlaaGreatDoor
