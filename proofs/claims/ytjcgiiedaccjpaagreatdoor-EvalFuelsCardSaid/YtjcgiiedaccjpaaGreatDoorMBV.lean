/- Parts. -/
import Derived.Test.YtjcgiiedaccjpaaGreatDoorMBS
set_option maxHeartbeats 16000000
namespace Go.Proofs.YtjcgiiedaccjpaaGreatDoor
open _root_.Go.Proofs.Tryz
open Go.Sx Go.Ev
def sumA: List (List Nd)->Nat
 |[]=>0
 |t::r=>t.length+sumA r
def sumC: List Ct->Nat
 |[]=>0
 |c::r=>sumA c.args+sumC r
def sumD: List Dt->Nat
 |[]=>0
 |d::r=>sumC d.cons+sumD r
def eokN(n:Nd): Bool:=decide (n.text.length<=60)
def eokA(t:List Nd): Bool:=decide (t.length<=60)&&(t.take 61).all eokN
def eokC(c:Ct): Bool:=decide (c.name.length<=60)&&decide (c.args.length<=10)&&c.args.all eokA
def eokD(d:Dt): Bool:=decide (d.name.length<=60)&&decide (d.cons.length<=70)&&d.cons.all eokC
def fewD(l:List Dt): Bool:=decide (l.length<=70)&&l.all eokD&&decide (sumD l<=300)
theorem zKa{α:Type}{l:List α}{p:α->Bool}{i:Nat}{x:α}(h:l[i]?=some x): (l.drop i).all p=(p x&&(l.drop (i+1)).all p):=by
 obtain⟨hi,rfl⟩:=qAA.1 h
 rw[qAZ hi,List.all_cons]
theorem zKV{α:Type}{l:List α}{n i:Nat}{x:α}(h:l[i]?=some x)(hi:i<n): (l.take n)[i]?=some x:=by rw[qAX,if_pos hi,h]
theorem zT0{α:Type}{l:List α}{i:Nat}{x:α}(h:l[i]?=some x): l.drop i=x::l.drop (i+1):=by
 obtain⟨hi,rfl⟩:=qAA.1 h
 exact qAZ hi
attribute [local irreducible] zAK Program.underlying Ylds zA3 alex zBc zBL awp zAc zBd zBi zBD zBI zDI zBS zA5 zBT zBY zBe zBs zC7 zBN VCall
theorem zTm(l:List Dt): zAc prog 22 [dts l] (bl (fewD l)):=by
 refine zAX func22 rfl ntmps22 results22 rfl ?_
 intro wb St0
 by_cases h70:l.length<=70
 case neg =>
  have h1:(l.length:Int)>70:=by omega
  rw[fewD,decide_eq_false h70]
  skip
  repeat' first|apply en_n|apply zAE|apply zAA|apply zAD|apply w0|exact zDg rfl rfl|apply ay (hd:=rfl)|exact zAC rfl|exact zAB rfl|exact zAo rfl zD6|refine zAN rfl ?_|apply zAM|apply en_r|apply zAL|refine res1 rfl ?_
  all_goals first|omega|rfl
 have h1:¬(l.length:Int)>70:=by omega
 have hF:fewD l=((l.drop 0).all eokD&&decide (0+sumD (l.drop 0)<=300)):=by rw[fewD,decide_eq_true h70,qBE,qBM,qAU]
 generalize fewD l=F at *
 repeat' first|apply en_n|apply zAE|apply zAA|apply zAD|apply w0|exact zC4 rfl rfl|apply ay (hd:=rfl)|exact zAC rfl|exact zAB rfl|exact zAo rfl zD6|refine zAQ rfl ?_|apply zAI|apply zAO
 refine zAv (α:=Nat×Nat) (fun x=>x.1<=l.length/\x.2<=300/\F=((l.drop x.1).all eokD&&decide (x.2+sumD (l.drop x.1)<=300))) (fun x=>[(0,.d (dts l)),(3,.d (i64 (x.2:Int))),(4,.d (i64 (x.1:Int)))]) (fun _=>[]) (fun x=>l.length-x.1) (0,0) ⟨qAR _,qAR _,hF⟩
  (zAV (Le_all rfl) zAW rfl rfl) ?_
 rintro⟨i,s⟩ ⟨hi1,hs,hi2⟩
 dsimp only at hi1 hs hi2 ⊢
 clear hF
 rcases qAI i l.length with hlt|hge
 case inr =>
  have hlt':¬(i:Int)<(l.length:Int):=by omega
  rw[qAk hge,List.all_nil,qBE,decide_eq_true (show s+sumD []<=300 from hs)]at hi2
  subst hi2
  skip
  repeat' first|apply en_n|apply zAE|apply zAA|apply zAD|apply w0|exact zCT rfl rfl|apply ay (hd:=rfl)|exact zAC rfl|exact zAB rfl|exact zAo rfl zD6|refine zAQ rfl ?_|apply zAM|apply zA0|apply en_e|apply eb_e|apply zAL|refine res1 rfl ?_
  all_goals first|omega|rfl
 obtain⟨d,hd⟩:∃d,l[i]?=some d:=⟨_,qAB hlt⟩
 have hd0:l[((i:Nat):Int).toNat]?=some d:=by rw[qAc];exact hd
 have hlt':(i:Int)<(l.length:Int):=by omega
 rw[zT0 hd,List.all_cons,sumD]at hi2
 have no:eokD d=false->F=false:=fun h=>by rw[hi2,h];rfl
 by_cases c1:d.cons.length<=70
 case neg =>
  have d1:(d.cons.length:Int)>70:=by omega
  have e:=no (by rw[eokD,decide_eq_false c1,Bool.and_false];rfl)
  clear no hi2
  subst e
  skip
  repeat' first|apply en_n|apply zAE|apply zAA|apply zAD|apply w0|refine k0u (hd:=rfl) rfl rfl ?_|exact zBh rfl rfl|exact zDg rfl rfl|(apply aJ (hd:=rfl);(first|exact zAq rfl|exact Co_bb rfl rfl rfl|exact Co_nn rfl);exact rfl;(with_reducible exact zCc);assumption;omega;exact fun _=>rfl)|apply ay (hd:=rfl)|exact zAC rfl|exact zAB rfl|exact zA1 rfl zB4|exact zAR rfl zC0|(apply zAo;exact rfl;(with_reducible first|exact zD6|exact zEN))|exact zAi rfl rfl|refine zAN rfl ?_|apply zAI|apply zAO|apply zAM|apply en_r|apply eb_r|apply zAL|refine res1 rfl ?_
  all_goals first|omega|rfl
 have d1:¬(d.cons.length:Int)>70:=by omega
 by_cases c2:d.name.length<=60
 case neg =>
  have d2:(d.name.length:Int)>60:=by omega
  have e:=no (by rw[eokD,decide_eq_false c2];rfl)
  clear no hi2
  subst e
  skip
  repeat' first|apply en_n|apply zAE|apply zAA|apply zAD|apply w0|exact zBh rfl rfl|exact zDg rfl rfl|exact zC4 rfl rfl|(apply zC1;exact rfl;with_reducible exact ustr)|(apply aJ (hd:=rfl);(first|exact zAq rfl|exact Co_bb rfl rfl rfl|exact Co_nn rfl);exact rfl;(with_reducible exact zCc);assumption;omega;exact fun _=>rfl)|apply ay (hd:=rfl)|exact zAC rfl|exact zAB rfl|(apply zA1;exact rfl;(with_reducible first|exact zE8|exact zB4))|(apply zAR;exact rfl;(with_reducible first|exact zC0|exact zAr))|(apply zAo;exact rfl;(with_reducible first|exact zD6|exact zEN))|exact zAj rfl rfl|refine w1 rfl rfl ?_|refine zAN rfl ?_|apply zAI|apply zAO|apply zAM|apply en_r|apply eb_r|apply zAL|refine res1 rfl ?_
  all_goals first|omega|rfl
 have d2:¬(d.name.length:Int)>60:=by omega
 have eg:eokD d=d.cons.all eokC:=by rw[eokD,decide_eq_true c1,decide_eq_true c2];rfl
 rw[eg]at hi2 no
 have hj0:F=((d.cons.drop 0).all eokC&&(l.drop (i+1)).all eokD&&decide (s+(sumC (d.cons.drop 0)+sumD (l.drop (i+1)))<=300)):=hi2
 clear hi2 eg no
 generalize hRb:(l.drop (i+1)).all eokD=rb at *
 generalize hRs:sumD (l.drop (i+1))=rs at *
 skip
 repeat' first|apply en_n|apply zAE|apply zAA|apply zAD|apply w0|exact zBh rfl rfl|exact zC4 rfl rfl|(apply zC1;exact rfl;with_reducible exact ustr)|(apply aJ (hd:=rfl);(first|exact zAq rfl|exact Co_bb rfl rfl rfl|exact Co_nn rfl);exact rfl;(with_reducible exact zCc);assumption;omega;exact fun _=>rfl)|apply ay (hd:=rfl)|exact zAC rfl|exact zAB rfl|(apply zA1;exact rfl;(with_reducible first|exact zE8|exact zB4))|(apply zAR;exact rfl;(with_reducible first|exact zC0|exact zAr))|(apply zAo;exact rfl;(with_reducible first|exact zD6|exact zEN))|exact zAj rfl rfl|refine w1 rfl rfl ?_|refine zAN rfl ?_|refine zAQ rfl ?_|apply zAI|apply zAO
 all_goals first|omega|skip
 refine zAv (α:=Nat×Nat) (fun x=>x.1<=d.cons.length/\x.2<=300/\F=((d.cons.drop x.1).all eokC&&rb&&decide (x.2+(sumC (d.cons.drop x.1)+rs)<=300))) (fun x=>[(0,.d (dts l)),(3,.d (i64 (x.2:Int))),(4,.d (i64 (i:Int))),(5,.d (i64 (x.1:Int)))]) (fun _=>[]) (fun x=>d.cons.length-x.1) (0,s) ⟨qAR _,hs,hj0⟩
  (zAV (Le_all rfl) zAW rfl rfl) ?_
 rintro⟨j,s1⟩ ⟨hj1,hs1,hj2⟩
 dsimp only at hj1 hs1 hj2 ⊢
 clear hj0 hs
 rcases qAI j d.cons.length with hjl|hjge
 case inr =>
  have hjl':¬(j:Int)<(d.cons.length:Int):=by omega
  rw[qAk hjge,List.all_nil,qBE,sumC,qAU]at hj2
  clear d1 d2 c1 c2
  skip
  repeat' first|apply en_n|apply zAE|apply zAA|apply zAD|apply w0|exact zCT rfl rfl|(apply aJ (hd:=rfl);(first|exact zAq rfl|exact Co_bb rfl rfl rfl|exact Co_nn rfl);exact rfl;(with_reducible exact zCc);assumption;omega;exact fun _=>rfl)|apply ay (hd:=rfl)|exact zAC rfl|exact zAB rfl|exact zA1 rfl zB4|exact zAR rfl zC0|exact zAo rfl zEN|refine zBE rfl rfl ?_|refine zAQ rfl ?_|apply zA0|apply en_e|apply eb_n|apply eb_e
  all_goals first|omega|skip
  subst hRb
  subst hRs
  exact⟨(i+1,s1),⟨by show i+1<=_;omega,hs1,hj2⟩,by show l.length-(i+1)<l.length-i;omega,zAV (Le_all rfl) zAW rfl rfl⟩
 obtain⟨c,hc⟩:∃c,d.cons[j]?=some c:=⟨_,qAB hjl⟩
 have hc0:d.cons[((j:Nat):Int).toNat]?=some c:=by rw[qAc];exact hc
 have hjl':(j:Int)<(d.cons.length:Int):=by omega
 rw[zT0 hc,List.all_cons,sumC]at hj2
 have no:eokC c=false->F=false:=fun h=>by rw[hj2,h];rfl
 by_cases c3:c.name.length<=60
 case neg =>
  have d3:(c.name.length:Int)>60:=by omega
  have e:=no (by rw[eokC,decide_eq_false c3];rfl)
  clear no hj2 hRb hRs
  subst e
  skip
  repeat' first|apply en_n|apply zAE|apply zAA|apply zAD|apply w0|refine k0u (hd:=rfl) rfl rfl ?_|exact zBh rfl rfl|exact zDg rfl rfl|(apply zC1;exact rfl;with_reducible exact ustr)|(apply aJ (hd:=rfl);(first|exact zAq rfl|exact Co_bb rfl rfl rfl|exact Co_nn rfl);exact rfl;(with_reducible first|exact zCc|exact zEO);assumption;omega;exact fun _=>rfl)|(apply zBF (hd:=rfl) (hro:=rfl);(with_reducible exact zJP))|apply ay (hd:=rfl)|exact zAC rfl|exact zAB rfl|exact zA1 rfl zB4|exact zAR rfl zC0|exact zAg rfl zE5 rfl|exact zAo rfl zEN|exact zAi rfl rfl|exact zAH rfl zEY|exact zAJ rfl zAr rfl rfl|(refine w0' ?_)|(apply zAl;exact rfl;exact rfl;exact rfl;(with_reducible exact zE5);exact rfl;exact rfl;exact rfl;exact rfl)|refine zAN rfl ?_|apply zAI|apply zAO|apply zAM|apply en_r|apply eb_r|apply zAL|refine res1 rfl ?_
  all_goals first|omega|rfl
 have d3:¬(c.name.length:Int)>60:=by omega
 by_cases c4:c.args.length<=10
 case neg =>
  have d4:(c.args.length:Int)>10:=by omega
  have e:=no (by rw[eokC,decide_eq_false c4,Bool.and_false];rfl)
  clear no hj2 hRb hRs
  subst e
  skip
  repeat' first|apply en_n|apply zAE|apply zAA|apply zAD|apply w0|exact zBh rfl rfl|exact zDg rfl rfl|exact zC4 rfl rfl|(apply zC1;exact rfl;with_reducible exact ustr)|(apply aJ (hd:=rfl);(first|exact zAq rfl|exact Co_bb rfl rfl rfl|exact Co_nn rfl);exact rfl;(with_reducible first|exact zCc|exact zEO);assumption;omega;exact fun _=>rfl)|(apply zBF (hd:=rfl) (hro:=rfl);(with_reducible exact zJP))|apply ay (hd:=rfl)|exact zAC rfl|exact zAB rfl|exact zA1 rfl zB4|exact zAR rfl zC0|exact zAg rfl zE5 rfl|(apply zAo;exact rfl;(with_reducible first|exact zEN|exact zCB))|exact zAj rfl rfl|(apply zAH;exact rfl;(with_reducible first|exact zEY|exact zB1))|(apply zAJ;exact rfl;(with_reducible first|exact zCP|exact zAr);exact rfl;exact rfl)|refine w1 rfl rfl ?_|(refine w0' ?_)|(apply zAl;exact rfl;exact rfl;exact rfl;(with_reducible exact zE5);exact rfl;exact rfl;exact rfl;exact rfl)|refine zAN rfl ?_|apply zAI|apply zAO|apply zAM|apply en_r|apply eb_r|apply zAL|refine res1 rfl ?_
  all_goals first|omega|rfl
 have d4:¬(c.args.length:Int)>10:=by omega
 have eg:eokC c=c.args.all eokA:=by rw[eokC,decide_eq_true c3,decide_eq_true c4];rfl
 rw[eg]at hj2 no
 have hk0:F=((c.args.drop 0).all eokA&&((d.cons.drop (j+1)).all eokC&&rb)&&decide (s1+(sumA (c.args.drop 0)+(sumC (d.cons.drop (j+1))+rs))<=300)):=by rw[hj2,qBM,Nat.add_assoc];simp only[Bool.and_assoc]
 clear hj2 eg no
 generalize hRc:(d.cons.drop (j+1)).all eokC=rc at *
 generalize hRt:sumC (d.cons.drop (j+1))=rt at *
 skip
 repeat' first|apply en_n|apply zAE|apply zAA|apply zAD|apply w0|exact zBh rfl rfl|exact zC4 rfl rfl|(apply zC1;exact rfl;with_reducible exact ustr)|(apply aJ (hd:=rfl);(first|exact zAq rfl|exact Co_bb rfl rfl rfl|exact Co_nn rfl);exact rfl;(with_reducible first|exact zCc|exact zEO);assumption;omega;exact fun _=>rfl)|(apply zBF (hd:=rfl) (hro:=rfl);(with_reducible exact zJP))|apply ay (hd:=rfl)|exact zAC rfl|exact zAB rfl|exact zA1 rfl zB4|exact zAR rfl zC0|exact zAg rfl zE5 rfl|(apply zAo;exact rfl;(with_reducible first|exact zEN|exact zCB))|exact zAj rfl rfl|(apply zAH;exact rfl;(with_reducible first|exact zEY|exact zB1))|(apply zAJ;exact rfl;(with_reducible first|exact zCP|exact zAr);exact rfl;exact rfl)|refine w1 rfl rfl ?_|(refine w0' ?_)|(apply zAl;exact rfl;exact rfl;exact rfl;(with_reducible exact zE5);exact rfl;exact rfl;exact rfl;exact rfl)|refine zAN rfl ?_|refine zAQ rfl ?_|apply zAI|apply zAO
 all_goals first|omega|skip
 refine zAv (α:=Nat×Nat) (fun x=>x.1<=c.args.length/\x.2<=300/\F=((c.args.drop x.1).all eokA&&(rc&&rb)&&decide (x.2+(sumA (c.args.drop x.1)+(rt+rs))<=300))) (fun x=>[(0,.d (dts l)),(3,.d (i64 (x.2:Int))),(4,.d (i64 (i:Int))),(5,.d (i64 (j:Int))),(6,.ptr 0 0),(7,.d (i64 (x.1:Int)))]) (fun _=>[.box [.d (str c.name),.d (zCG c.args)]]) (fun x=>c.args.length-x.1) (0,s1) ⟨qAR _,hs1,hk0⟩
  (zAV (Le_all rfl) (zAT rfl rfl zAW) rfl rfl) ?_
 rintro⟨k,s2⟩ ⟨hk1,hs2,hk2⟩
 dsimp only at hk1 hs2 hk2 ⊢
 clear hk0 hs1
 rcases qAI k c.args.length with hkl|hkge
 case inr =>
  have hkl':¬(k:Int)<(c.args.length:Int):=by omega
  rw[qAk hkge,List.all_nil,qBE,sumA,qAU]at hk2
  clear d1 d2 c2 hRb hRs
  skip
  repeat' first|apply en_n|apply zAE|apply zAA|apply zAD|apply w0|exact zCT rfl rfl|apply ay (hd:=rfl)|exact zAC rfl|exact zAB rfl|exact zAo rfl zCB|refine zBE rfl rfl ?_|exact zAH rfl zB1|exact zAJ rfl zCP rfl rfl|refine zAQ rfl ?_|apply zA0|apply en_e|apply eb_n|apply eb_e
  all_goals first|omega|skip
  subst hRc
  subst hRt
  exact⟨(j+1,s2),⟨by show j+1<=_;omega,hs2,hk2⟩,by show d.cons.length-(j+1)<d.cons.length-j;omega,zAV (Le_all rfl) zAW rfl rfl⟩
 obtain⟨t,ht⟩:∃t,c.args[k]?=some t:=⟨_,qAB hkl⟩
 have ht0:c.args[((k:Nat):Int).toNat]?=some t:=by rw[qAc];exact ht
 have hkl':(k:Int)<(c.args.length:Int):=by omega
 rw[zT0 ht,List.all_cons,sumA]at hk2
 clear hRb hRs hRc hRt c1 c2 c3 d1 d2 d3 d4
 have hl61:(t.take 61).length=min 61 t.length:=qAT
 by_cases c6:t.length<=60
 case neg =>
  have d6:(t.length:Int)>60:=by omega
  have e:F=false:=by rw[hk2,show eokA t=false by rw[eokA,decide_eq_false c6];rfl];rfl
  clear hk2
  subst e
  skip
  repeat' first|(refine ay (hd:=rfl) (zSr rfl rfl) ?_)|apply en_n|apply zAE|apply zAA|apply zAD|apply w0|exact zBh rfl rfl|(apply aJ (hd:=rfl);(first|exact zAq rfl|exact Co_bb rfl rfl rfl|exact Co_nn rfl);exact rfl;(with_reducible exact zBa);assumption;omega;exact fun _=>rfl)|apply ay (hd:=rfl)|exact zAC rfl|exact zAB rfl|exact zAR rfl zAY|(apply zAo;exact rfl;(with_reducible first|exact zA8|exact zCB))|exact zAH rfl zB1|exact zAJ rfl zCP rfl rfl|refine zAN rfl ?_|apply zAI|apply zAO
  all_goals first|omega|skip
  refine zAv (α:=Nat) (fun m=>m<=(t.take 61).length) (fun m=>[(0,.d (dts l)),(3,.d (i64 (IntKind.i64.wrap ((s2:Int)+(t.length:Int))))),(4,.d (i64 (i:Int))),(5,.d (i64 (j:Int))),(6,.ptr 0 0),(7,.d (i64 (k:Int))),(8,.d (i64 (m:Int)))]) (fun _=>[.box [.d (str c.name),.d (zCG c.args)]]) (fun m=>(t.take 61).length-m) 0 (qAR _)
   (zAV (Le_all rfl) (zAT rfl rfl zAW) rfl rfl) ?_
  intro m hm1
  generalize IntKind.i64.wrap ((s2:Int)+(t.length:Int))=z
  rcases qAI m (t.take 61).length with hml|hmge
  ·obtain⟨n,hn⟩:∃n,t[m]?=some n:=⟨_,qAB (by omega)⟩
   have hn0:t[((m:Nat):Int).toNat]?=some n:=by rw[qAc];exact hn
   have hml1:(m:Int)<(t.length:Int):=by omega
   have hml2:(m:Int)<61:=by omega
   by_cases c5:n.text.length<=60
   ·have d5:¬(n.text.length:Int)>60:=by omega
    skip
    repeat' first|apply en_n|apply zAE|apply zAA|apply zAD|apply w0|exact zBh rfl rfl|exact zC4 rfl rfl|(apply zC1;exact rfl;with_reducible exact ustr)|(apply aJ (hd:=rfl);(first|exact zAq rfl|exact Co_bb rfl rfl rfl|exact Co_nn rfl);exact rfl;(with_reducible first|exact zAa|exact zBa);assumption;omega;exact fun _=>rfl)|apply ay (hd:=rfl)|exact zAC rfl|exact zAB rfl|exact zA1 rfl fn_1|(apply zAR;exact rfl;(with_reducible first|exact zAY|exact zAr))|exact zAo rfl zA8|refine zBE rfl rfl ?_|exact zAi rfl rfl|exact zAH rfl zB1|exact zAJ rfl zCP rfl rfl|refine w1 rfl rfl ?_|refine zAN rfl ?_|refine zAQ rfl ?_|apply zAI|apply zAO|apply eb_n
    all_goals first|omega|skip
    exact⟨m+1,by omega,by omega,zAV (Le_all rfl) (zAT rfl rfl zAW) rfl rfl⟩
   ·have d5:(n.text.length:Int)>60:=by omega
    skip
    exact yM
  ·have hm61:¬(m:Int)<61:=by omega
   skip
   exact yM
 skip
 repeat' first|apply en_n|apply zAE|apply zAA|apply zAD|apply w0|exact zBh rfl rfl|(apply aJ (hd:=rfl);(first|exact zAq rfl|exact Co_bb rfl rfl rfl|exact Co_nn rfl);exact rfl;(with_reducible exact zBa);assumption;omega;exact fun _=>rfl)|apply ay (hd:=rfl)|exact zAC rfl|exact zAB rfl|exact zAR rfl zAY|(apply zAo;exact rfl;(with_reducible first|exact zA8|exact zCB))|refine zBE rfl rfl ?_|exact zAH rfl zB1|exact zAJ rfl zCP rfl rfl|refine zAN rfl ?_|apply zAI|apply zAO
 all_goals first|omega|skip
 refine zAv (α:=Nat) (fun m=>m<=(t.take 61).length/\(t.take 61).all eokN=((t.take 61).drop m).all eokN) (fun m=>[(0,.d (dts l)),(3,.d (i64 ((s2:Int)+(t.length:Int)))),(4,.d (i64 (i:Int))),(5,.d (i64 (j:Int))),(6,.ptr 0 0),(7,.d (i64 (k:Int))),(8,.d (i64 (m:Int)))]) (fun _=>[.box [.d (str c.name),.d (zCG c.args)]]) (fun m=>(t.take 61).length-m) 0 ⟨qAR _,rfl⟩
  (zAV (Le_all rfl) (zAT rfl rfl zAW) rfl rfl) ?_
 rintro m ⟨hm1,hm2⟩
 rcases qAI m (t.take 61).length with hml|hmge
 ·obtain⟨n,hn⟩:∃n,t[m]?=some n:=⟨_,qAB (by omega)⟩
  have hn0:t[((m:Nat):Int).toNat]?=some n:=by rw[qAc];exact hn
  have hml1:(m:Int)<(t.length:Int):=by omega
  have hml2:(m:Int)<61:=by omega
  rw[zKa (zKV hn (by omega))]at hm2
  by_cases c5:n.text.length<=60
  ·have d5:¬(n.text.length:Int)>60:=by omega
   rw[show eokN n=true from decide_eq_true c5,qBE]at hm2
   clear hk2
   skip
   repeat' first|apply en_n|apply zAE|apply zAA|apply zAD|apply w0|exact zBh rfl rfl|exact zC4 rfl rfl|(apply zC1;exact rfl;with_reducible exact ustr)|(apply aJ (hd:=rfl);(first|exact zAq rfl|exact Co_bb rfl rfl rfl|exact Co_nn rfl);exact rfl;(with_reducible first|exact zAa|exact zBa);assumption;omega;exact fun _=>rfl)|apply ay (hd:=rfl)|exact zAC rfl|exact zAB rfl|exact zA1 rfl fn_1|(apply zAR;exact rfl;(with_reducible first|exact zAY|exact zAr))|exact zAo rfl zA8|refine zBE rfl rfl ?_|exact zAi rfl rfl|exact zAH rfl zB1|exact zAJ rfl zCP rfl rfl|refine w1 rfl rfl ?_|refine zAN rfl ?_|refine zAQ rfl ?_|apply zAI|apply zAO|apply eb_n
   all_goals first|omega|skip
   exact⟨m+1,⟨by omega,hm2⟩,by omega,zAV (Le_all rfl) (zAT rfl rfl zAW) rfl rfl⟩
  ·have d5:(n.text.length:Int)>60:=by omega
   have e:F=false:=by rw[hk2,show eokA t=false by rw[eokA,hm2,show eokN n=false from decide_eq_false c5,Bool.false_and,Bool.and_false]];rfl
   clear hk2 hm2
   subst e
   skip
   exact yM
 rw[qAk hmge,List.all_nil]at hm2
 have d6:¬(t.length:Int)>60:=by omega
 have hml1:¬(m:Int)<(t.length:Int):=by omega
 rw[show eokA t=true by rw[eokA,hm2,decide_eq_true c6];rfl,qBE]at hk2
 by_cases c7:s2+t.length<=300
 case neg =>
  have d7:(s2:Int)+(t.length:Int)>300:=by omega
  have e:F=false:=by rw[hk2,decide_eq_false (by omega),Bool.and_false]
  clear hk2 hm2
  subst e
  skip
  repeat' first|apply en_n|apply zAE|apply zAA|apply zAD|apply w0|refine k1u (hd:=rfl) rfl rfl ?_|exact zCT rfl rfl|exact zDg rfl rfl|exact zC4 rfl rfl|(apply aJ (hd:=rfl);(first|exact zAq rfl|exact Co_bb rfl rfl rfl|exact Co_nn rfl);exact rfl;(with_reducible exact zBa);assumption;omega;exact fun _=>rfl)|apply ay (hd:=rfl)|exact zAC rfl|exact zAB rfl|exact zAR rfl zAY|exact zAo rfl zA8|exact zAj rfl rfl|exact zAH rfl zB1|exact zAJ rfl zCP rfl rfl|refine w1 rfl rfl ?_|refine zAN rfl ?_|refine zAQ rfl ?_|apply zAM|apply zA0|apply en_r|apply en_e|apply eb_r|apply eb_e|apply zAL|refine res1 rfl ?_
  all_goals first|omega|rfl
 have d7:¬(s2:Int)+(t.length:Int)>300:=by omega
 have hk3:F=((c.args.drop (k+1)).all eokA&&(rc&&rb)&&decide (s2+t.length+(sumA (c.args.drop (k+1))+(rt+rs))<=300)):=by rw[hk2];congr 2;exact propext (by omega)
 clear hk2 hm2
 skip
 repeat' first|apply en_n|apply zAE|apply zAA|apply zAD|apply w0|refine k1u (hd:=rfl) rfl rfl ?_|exact zCT rfl rfl|exact zC4 rfl rfl|(apply aJ (hd:=rfl);(first|exact zAq rfl|exact Co_bb rfl rfl rfl|exact Co_nn rfl);exact rfl;(with_reducible exact zBa);assumption;omega;exact fun _=>rfl)|apply ay (hd:=rfl)|exact zAC rfl|exact zAB rfl|exact zAR rfl zAY|exact zAo rfl zA8|refine zBE rfl rfl ?_|exact zAj rfl rfl|exact zAH rfl zB1|exact zAJ rfl zCP rfl rfl|refine w1 rfl rfl ?_|refine zAQ rfl ?_|apply zAO|apply zA0|apply en_e|apply eb_n|apply eb_e
 all_goals first|omega|skip
 exact⟨(k+1,s2+t.length),⟨by show k+1<=_;omega,c7,hk3⟩,by show c.args.length-(k+1)<c.args.length-k;omega,zAV (Le_all rfl) (zAT rfl rfl zAW) rfl rfl⟩
