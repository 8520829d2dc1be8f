/- Parts. -/
import Derived.Test.YtjcgiiedaccjpaaGreatDoorMBU
import Derived.Test.YtjcgiiedaccjpaaGreatDoorMBV
set_option maxHeartbeats 16000000
namespace Go.Proofs.YtjcgiiedaccjpaaGreatDoor
open _root_.Go.Proofs.Tryz
open Go.Sx Go.Ev
theorem zPZ: zAK prog 15=true:=by kernel_rfl
def toNd(n:Nn): Nd:=⟨n.kind,n.text,n.num,n.kids⟩
theorem zIM(l:List Nn): (D.slice (l.map snD))=zAm (l.map toNd):=by
 unfold zAm;rw[List.map_map];rfl
theorem zQw{a b:List Nn}: a.map toNd=b.map toNd↔a=b:=by
 refine⟨fun h=>?_,fun h=>by rw[h]⟩
 refine List.map_inj_right (f:=toNd) (fun x y e=>?_) |>.1 h
 cases x;cases y;simp[toNd]at e;simp[e]
def fewE(l:List Dt)(e:List Nd)(fuel:Int): Bool:=(e.take 61).all eokN&&(fewD l&&decide (l.length<=10)&&decide (e.length<=60)&&decide (fuel<=2000))
attribute [local irreducible] zAK Program.underlying Ylds zA3 alex zBc zBL awp zAc zBd zBi zBD zBI zDI zBS zA5 zBT zBY zBe zBs zC7 zBN VCall
theorem zKc(A B:List (List UInt8))(hL:A.length<=2000000): zAc prog 15 [.slice (A.map str),.slice (B.map str)] (bl (decide (A=B))):=by
 refine zAX func15 rfl ntmps15 results15 rfl ?_
 intro wb St0
 repeat' first|apply en_n|apply zAE|apply zAA|apply zAD|apply w0|apply ay (hd:=rfl)|exact zAC rfl|exact zAB rfl|(apply zAo;exact rfl;(with_reducible first|exact zCa|exact zCa))|exact zGm rfl rfl|(apply zAw;exact rfl;all_goals intro hb)|apply zAI|apply zAO|apply zAM|apply en_r|apply zAL|refine res1 rfl ?_
 ·have:A≠B:=fun e=>by subst e;omega
  rw[decide_eq_false this]
 ·have hlen:A.length=B.length:=by omega
  refine zAv (α:=Nat) (fun i=>i<=A.length/\A.take i=B.take i) (fun i=>[(0,.d (.slice (A.map str))),(1,.d (.slice (B.map str))),(5,.d (i64 (i:Int)))]) (fun _=>[]) (fun i=>A.length-i) 0 ⟨qAR _,rfl⟩
   (zAV (Le_all rfl) zAW rfl rfl) ?_
  rintro i ⟨hi1,hi2⟩
  repeat' first|apply en_n|apply zAE|apply zAA|apply zAD|apply w0|exact zGJ rfl rfl|(apply aI (hd:=rfl);(first|exact zAq rfl|exact Co_bb rfl rfl rfl|exact Co_nn rfl);exact rfl;(with_reducible first|exact zBZ|exact zBZ);exact fun _=>rfl;rotate_left;intro v hv;rotate_right)|apply ay (hd:=rfl)|exact zAC rfl|exact zAB rfl|exact zAR rfl zAr|(apply zAo;exact rfl;(with_reducible first|exact zCa|exact zCa))|exact zCs rfl rfl|refine zBE rfl rfl ?_|(apply zAw;exact rfl;all_goals intro hb)|apply zAI|apply zAO|apply zAM|apply zA0|refine zAu (by kernel_rfl) (by kernel_rfl) ?_|apply en_r|apply en_e|apply eb_n|apply eb_r|apply eb_e|apply zAL|refine res1 rfl ?_
  ·omega
  ·omega
  ·rename_i b1 b2 u hu
   have:A≠B:=by rintro rfl;rw[hu]at hv;exact hb (qA8 hv)
   rw[decide_eq_false this]
  ·omega
  ·rename_i b1 b2 u hu
   obtain rfl:u=v:=Decidable.not_not.1 hb
   exact⟨i+1,⟨by omega,zGq (i:=i) hi2 hu hv⟩,by omega,zAV (Le_all rfl) zAW rfl rfl⟩
  ·have h1:=hi2
   rw[show i=A.length by omega,qBQ,hlen,qBQ]at h1
   rw[decide_eq_true h1]
theorem zP0(A B:List Nn)(hL:A.length<=2000000): zAc prog 32 [.slice (A.map snD),.slice (B.map snD)] (bl (decide (A=B))):=by
 rw[zIM,zIM]
 have:=zUJ (A.map toNd) (B.map toNd) (by rw[qAK];exact hL)
 rwa [decide_eq_decide.2 zQw]at this
theorem zNn(b2 b6:Bool)(a b:Sn)(h2:zAc prog 32 [.slice (a.vals.map snD),.slice (b.vals.map snD)] (bl b2))(h6:zAc prog 15 [.slice (a.out.map str),.slice (b.out.map str)] (bl b6)):
  zAc prog 13 [snS a,snS b] (bl (decide (a.fin=b.fin)&&b2&&decide (a.num=b.num)&&b6)):=by
 refine zAX func13 rfl ntmps13 results13 rfl ?_
 intro wb St0
 unfold snS
 cases b2 <;> cases b6
 all_goals
  repeat' first|apply en_n|apply zAE|apply zAA|apply zAD|apply w0|refine k1u (hd:=rfl) rfl rfl ?_|(refine zAU zTd h2 (CoLA rfl))|(refine zAU zPZ h6 (CoLA rfl))|refine aBox (hd:=rfl) (hro:=rfl) rfl rfl ?_|apply ay (hd:=rfl)|exact zAC rfl|exact zAB rfl|exact zEA rfl rfl|exact zAi rfl rfl|exact zAj rfl rfl|(apply zAH;exact rfl;(with_reducible first|exact zDx|exact zEZ|exact zIf|exact zGe))|(apply zAJ;exact rfl;(with_reducible first|exact zAz|exact zCH|exact zAY|exact zCn|exact zCH);exact rfl;exact rfl)|refine w1 rfl rfl ?_|(apply gD;exact rfl;exact rfl;all_goals intro hb)|apply zAM|apply zAL|refine res1 rfl ?_
  all_goals (apply zBo;simp_all)
theorem zNm(a b:Sn)(hA:a.vals.length<=2000000)(hO:a.out.length<=2000000):
  zAc prog 13 [snS a,snS b] (bl (decide (a.fin=b.fin)&&decide (a.vals=b.vals)&&decide (a.num=b.num)&&decide (a.out=b.out))) :=
 zNn _ _ _ _ (zP0 a.vals b.vals hA) (zKc a.out b.out hO)
theorem zRy(l:List Dt)(hL:l.length<=1000000): zAc prog 9 [dts l] (dts l):=by
 refine zAX func9 rfl ntmps9 results9 rfl ?_
 intro wb St0
 repeat' first|apply en_n|apply zAE|apply zAA|apply zAD|apply w0|(apply zVN (hd:=rfl) (hro:=rfl);(with_reducible exact zMt);(with_reducible exact zCc);(with_reducible exact zTv);exact rfl)|(apply aApp (hd:=rfl) (hro:=rfl);exact rfl;exact rfl;(first|exact zAq rfl|exact Co_bb rfl rfl rfl|exact Co_nn rfl);(first|exact rfl|(simp;done));exact rfl;(with_reducible exact zMt);(with_reducible exact zCc);(with_reducible exact zTx);(with_reducible exact zTz);(first|exact zC8 (fun _=>rfl)|exact zDK rfl))|apply ay (hd:=rfl)|exact zAC rfl|exact zA4 rfl|exact zAs rfl|apply zAM|apply zAL
 all_goals first|(simp only[qAK];omega)|skip
 exact⟨_,_,_,rfl,by simp,by rw[qAn (by simp)];rfl⟩
theorem zTl(l:List Dt)(e:List Nd)(fuel:Int): zAc prog 7 [dts l,zAm e,i64 fuel] (bl (fewE l e fuel)):=by
 have hF:=zTm l
 refine zAX func7 rfl ntmps7 results7 rfl ?_
 intro wb St0
 unfold fewE
 generalize fewD l=F at *
 repeat' first|apply en_n|apply zAE|apply zAA|apply zAD|apply w0|apply ay (hd:=rfl)|exact zAB rfl|apply zAI
 have hl61:(e.take 61).length=min 61 e.length:=qAT
 refine zAv (α:=Nat) (fun m=>m<=(e.take 61).length/\(e.take 61).all eokN=((e.take 61).drop m).all eokN) (fun m=>[(0,.d (dts l)),(1,.d (zAm e)),(2,.d (i64 fuel)),(7,.d (i64 (m:Int)))]) (fun _=>[]) (fun m=>(e.take 61).length-m) 0 ⟨qAR _,rfl⟩
  (zAV (Le_all rfl) zAW rfl rfl) ?_
 rintro m ⟨hm1,hm2⟩
 rcases qAI m (e.take 61).length with hml|hmge
 ·obtain⟨n,hn⟩:∃n,e[m]?=some n:=⟨_,qAB (by omega)⟩
  have hn0:e[((m:Nat):Int).toNat]?=some n:=by rw[qAc];exact hn
  have hml1:(m:Int)<(e.length:Int):=by omega
  have hml2:(m:Int)<61:=by omega
  rw[zKa (zKV hn (by omega))]at hm2
  by_cases c5:n.text.length<=60
  ·have d5:¬(n.text.length:Int)>60:=by omega
   rw[show eokN n=true from decide_eq_true c5,qBE]at hm2
   skip
   repeat' first|apply en_n|apply zAE|apply zAA|apply zAD|apply w0|exact zBh rfl rfl|exact zC4 rfl rfl|(apply zC1;exact rfl;with_reducible exact ustr)|(apply aJ (hd:=rfl);(first|exact zAq rfl|exact Co_bb rfl rfl rfl|exact Co_nn rfl);exact rfl;(with_reducible exact zAa);assumption;omega;exact fun _=>rfl)|apply ay (hd:=rfl)|exact zAC rfl|exact zAB rfl|exact zA1 rfl fn_1|exact zAR rfl zAr|exact zAo rfl zA8|refine zBE rfl rfl ?_|exact zAi rfl rfl|refine w1 rfl rfl ?_|refine zAN rfl ?_|refine zAQ rfl ?_|apply zAI|apply zAO|apply eb_n
   all_goals first|omega|skip
   exact⟨m+1,⟨by omega,hm2⟩,by omega,zAV (Le_all rfl) zAW rfl rfl⟩
  ·have d5:(n.text.length:Int)>60:=by omega
   rw[hm2,show eokN n=false from decide_eq_false c5,Bool.false_and,Bool.false_and]
   clear hm2
   skip
   repeat' first|apply en_n|apply zAE|apply zAA|apply zAD|apply w0|exact zBh rfl rfl|exact zDg rfl rfl|(apply zC1;exact rfl;with_reducible exact ustr)|(apply aJ (hd:=rfl);(first|exact zAq rfl|exact Co_bb rfl rfl rfl|exact Co_nn rfl);exact rfl;(with_reducible exact zAa);assumption;omega;exact fun _=>rfl)|apply ay (hd:=rfl)|exact zAC rfl|exact zAB rfl|exact zA1 rfl fn_1|exact zAR rfl zAr|exact zAo rfl zA8|exact zAi rfl rfl|refine w1 rfl rfl ?_|refine zAN rfl ?_|apply zAI|apply zAO|apply zAM|apply en_r|apply eb_r|apply zAL|refine res1 rfl ?_
   all_goals first|omega|rfl
 ·rw[qAk hmge,List.all_nil]at hm2
  rw[hm2,qBE]
  clear hm2
  have hout:¬(m:Int)<61\/¬(m:Int)<(e.length:Int):=by omega
  cases F <;> rcases hout with ho|ho
  all_goals
   repeat' first|apply en_n|apply zAE|apply zAA|apply zAD|apply w0|refine k1u (hd:=rfl) rfl rfl ?_|exact zCT rfl rfl|exact zVU rfl rfl|(refine zAU zTh hF (CoLA rfl))|apply ay (hd:=rfl)|exact zAC rfl|exact zAB rfl|(apply zAo;exact rfl;(with_reducible first|exact zD6|exact zA8))|exact zCs rfl rfl|exact zJg rfl rfl|exact zAi rfl rfl|exact zAj rfl rfl|refine w1 rfl rfl ?_|(apply gD;exact rfl;exact rfl;all_goals intro hb)|refine zAQ rfl ?_|apply zAM|apply zA0|apply en_e|apply eb_e|apply zAL|refine res1 rfl ?_
   all_goals first|omega|(apply zBo;first|(simp_all;done)|(simp_all;intros;omega))
