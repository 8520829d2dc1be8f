import Derived.Test.YtcagoomibpcdlaaGreatDoorMBD
import Derived.Test.YtcagoomibpcdlaaGreatDoorMBF
set_option maxHeartbeats 16000000
namespace Go.Proofs.YtcagoomibpcdlaaGreatDoor
open Go.Sx Go.Vm
open _root_.Go.Proofs.Tryz
section
structure Sn where
 fin:Int
 vals:List Nn
 num:Int
 out:List (List UInt8)
 steps:Int
def Sn.av(s:Sn): D:=zIt s.fin s.vals s.num s.out s.steps
def sn0: Sn:=⟨0,[],0,[],0⟩
def snT(m:Img)(T:St): Sn:=⟨T.fin,valN m T,T.num,T.out,T.steps⟩
def ranT(m:Img)(w f:Int): St:=runS shw m f.toNat (Go.Vm.start w)
def runE(m:Img)(w f:Int): Int:=if verE m≠0 then verE m else if w<16 then 200 else if f<0 then 210 else 0
def runV(m:Img)(w f:Int): Sn:=if runE m w f≠0 then sn0 else snT m (ranT m w f)
structure ImgL(m:Img): Prop where
 pool:m.pool.length<=2000000
 code:m.code.length<=2000000
 text:∀c∈m.pool,c.text.length<=2000000
theorem zLB(shw:Int->List UInt8)(m:Img): ∀(f:Nat) (s:St),(runS shw m f s).out.length<=s.out.length+f
 |0,s=>by rw[runS];split <;> exact qAP _
 |f+1,s=>by
  rw[runS];split
  ·have h1:=zLB shw m f (Go.Vm.step shw m { s with steps:=s.steps+1 })
   have h2:(Go.Vm.step shw m { s with steps:=s.steps+1 }).out.length<=s.out.length+1:=(zTf shw m { s with steps:=s.steps+1 }).out
   omega
  ·omega
theorem zaS(m:Img)(w f:Int): (ranT m w f).out.length<=f.toNat:=by
 have:=zLB shw m f.toNat (Go.Vm.start w)
 have h0:(Go.Vm.start w).out.length=0:=rfl
 unfold ranT;omega
theorem zW2(m:Img)(w f:Int): (runV m w f).out.length<=f.toNat:=by
 unfold runV;split
 ·exact qAQ _
 ·exact zaS m w f
theorem zTv(m:Img)(w f:Int): (runV m w f).vals.length<=4000:=by
 unfold runV;split
 ·exact qAQ _
 ·show (valN m _).length<=4000
  unfold valN;split
  ·rename_i h;exact h.2
  ·exact qAQ _
theorem zNi(m:Img)(hm:ImgL m)(w f:Int)(hw:w<=1048576)(hf:f<=100000): zAb prog 10 [zCs m,i64 w,i64 f] (.tup [(runV m w f).av,i64 (runE m w f)]):=by
 have hV:=zV1 m hm.pool hm.code hm.text
 unfold runV runE
 by_cases h0:verE m=0
 ·rw[if_neg (by omega:¬verE m≠0)]
  rw[h0]at hV
  by_cases h1:w<16
  ·rw[if_pos h1,if_pos (by decide)];exact zYe m w f (.inl h1) hV
  ·rw[if_neg h1]
   obtain⟨n,rfl⟩:∃n:Nat,w=n:=⟨w.toNat,by omega⟩
   by_cases h2:f<0
   ·rw[if_pos h2,if_pos (by decide)];exact zYf m n f ⟨by omega,by omega⟩ h2 hV
   ·rw[if_neg h2,if_neg (by decide)]
    obtain⟨k,rfl⟩:∃k:Nat,f=k:=⟨f.toNat,by omega⟩
    obtain⟨hi,A,hg⟩:=zNt h0
    exact zd2 hg hi n k ⟨by omega,by omega⟩ (by omega) hV _ rfl
 ·rw[if_pos h0,if_pos h0];exact zb0 m w f _ h0 hV
theorem zVF{m:Img}{w f:Int}(h:few3 m w f=true): ImgL m/\w<=600/\f<=1500/\m.pool.length<=60/\m.code.length<=120:=by
 unfold few3 fewF at h
 simp only[qAV,decide_eq_true_eq]at h
 obtain⟨⟨⟨⟨h1,h2⟩,h3⟩,h4⟩,h5⟩:=h
 refine⟨⟨by omega,by omega,fun c hc=>?_⟩,h4,h5,h2,h3⟩
 rw[qAe (by omega)]at h1
 have:=qAb.1 h1 c hc
 have:=of_decide_eq_true this
 omega
def img1: Img:=⟨[⟨false,7,[]⟩],[⟨1,0,0⟩,⟨0,0,0⟩]⟩
def img0: Img:=⟨[],[]⟩
theorem zco: runV img1 16 9=⟨1,[⟨51,[],7,0⟩],0,[],2⟩:=by kernel_rfl
theorem zcp: runE img1 16 9=0:=by kernel_rfl
theorem zcm: runV img1 16 1=⟨3,[],0,[],1⟩:=by kernel_rfl
theorem zcn: runE img1 16 1=0:=by kernel_rfl
theorem zcq: runV img0 16 9=sn0:=by kernel_rfl
theorem zcr: runE img0 16 9=190:=by kernel_rfl
theorem zY1: ImgL img1:=⟨by decide,by decide,fun c hc=>by rw[qAM.1 hc];decide⟩
theorem zdQ: ImgL img0:=⟨by decide,by decide,fun c hc=>by cases hc⟩
attribute [local irreducible] zAL Program.underlying Ylds zA2 alex zBZ zBP awp zAb zBh zBg zAW zBF zAp zCO zBG zBR zAr zBV zBY zBe zCQ zBM zA8 zBE
theorem zYL: zAb prog 8 [] (bl true):=by
 have r1:=zNi img1 zY1 16 9 (by decide) (by decide)
 have r2:=zNi img1 zY1 16 1 (by decide) (by decide)
 have r0:=zNi img0 zdQ 16 9 (by decide) (by decide)
 rw[zco,zcp]at r1
 rw[zcm,zcn]at r2
 rw[zcq,zcr]at r0
 replace r1:zAb prog 10 [.agg [.slice [.agg [bl false,i64 7,str []]],.slice [.agg [i64 1,i64 0,i64 0],.agg [i64 0,i64 0,i64 0]]],i64 16,i64 9] (.tup [.agg [i64 1,.slice (([⟨51,[],7,0⟩]:List Nn).map nnD),i64 0,.slice [],i64 2],i64 0]):=r1
 replace r2:zAb prog 10 [.agg [.slice [.agg [bl false,i64 7,str []]],.slice [.agg [i64 1,i64 0,i64 0],.agg [i64 0,i64 0,i64 0]]],i64 16,i64 1] (.tup [.agg [i64 3,.slice [],i64 0,.slice [],i64 1],i64 0]):=r2
 replace r0:zAb prog 10 [.agg [.slice [],.slice []],i64 16,i64 9] (.tup [.agg [i64 0,.slice [],i64 0,.slice [],i64 0],i64 190]):=r0
 refine zAj func8 rfl ntmps8 results8 rfl ?_
 intro wb St0
 repeat' first|apply en_n|apply zAE|apply zAA|apply zAB|apply w0|refine k1u (hd:=rfl) rfl rfl ?_|exact ycA zGN r1|exact ycA zGN r2|exact ycA zGN r0|(refine zBI (cs:=[bl false,i64 7,str []]) zZn zIr (PD_d rfl rfl zCI) rfl)|(refine zBI (cs:=[i64 1,i64 0,i64 0]) zTK zJo (PD_d rfl rfl zCI) rfl)|(refine zBI (cs:=[i64 0,i64 0,i64 0]) zTK zJo zCI rfl)|(refine zBI (cs:=[.slice [],.slice []]) zPY zK2 zCI rfl)|(refine zBI (cs:=[.slice [.agg [bl false,i64 7,str []]],.slice [.agg [i64 1,i64 0,i64 0],.agg [i64 0,i64 0,i64 0]]]) zPY zK2 (PD_d rfl rfl (PD_d rfl rfl zCI)) rfl)|(refine zCA zMs zC8 (by kernel_rfl) rfl rfl (zAN rfl zAH) rfl)|(refine zRj zMr zFg (by kernel_rfl) rfl rfl (zAN rfl (zAN rfl zAH)) rfl)|refine aStA ?_|(apply aI (hd:=rfl);(first|exact zA0 rfl|exact zBX rfl rfl rfl|exact Co_nn rfl);exact rfl;(with_reducible exact zDW);exact fun _=>rfl;rotate_left;intro v hv;rotate_right)|refine aAlA ?_|refine ayA rfl ?_|refine ayQ rfl ?_|apply ay (hd:=rfl)|exact zFC rfl rfl|refine w1 rfl rfl ?_|(apply gD;exact rfl;exact rfl;all_goals intro hb)|(refine w0' ?_)|apply zAM|apply zAS|refine res1 rfl ?_
 ·exact⟨qBO 0,by decide⟩
 ·rfl
 ·exfalso;injection hv with hv;subst hv;exact hb rfl
end
section
theorem zRE(o:Int): zHD o=(decide (o>=15)&&decide (o<=20)):=by
 unfold zHD zGg
 by_cases h1:0<=o <;> by_cases h2:o<21 <;> by_cases h3:o>=15 <;> simp[h1,h2,h3] <;> omega
theorem zaq{o:Int}(h:¬o=1/\¬o=2/\¬o=3/\¬o=5/\¬o=6/\¬o=11/\¬o=12/\¬o=18/\¬o=19/\¬o=20/\¬o=10): zKJ o=0:=by
 unfold zKJ
 split
 ·rename_i hk
  have hr:0<=o/\o<21:=by unfold zGg at hk;simpa using hk
  have:o=0\/o=4\/o=7\/o=8\/o=9\/o=13\/o=14\/o=15\/o=16\/o=17:=by omega
  rcases this with rfl|rfl|rfl|rfl|rfl|rfl|rfl|rfl|rfl|rfl <;> rfl
 ·rfl
theorem zSY{o:Int}(h:zHD o=true): zKJ o=0\/zKJ o=1:=by
 rw[zRE]at h
 simp at h
 have:o=15\/o=16\/o=17\/o=18\/o=19\/o=20:=by omega
 rcases this with rfl|rfl|rfl|rfl|rfl|rfl <;> decide
attribute [local irreducible] zAL Program.underlying Ylds zA2 alex zBZ zBP awp zAb zBh zBg zAW zBF zAp zCO zBG zBR zAr zBV zBY zBe zCQ zBM zA8 zBE
theorem zQs(o:Int): zAb prog 69 [i64 o] (bl (zHD o)):=by
 rw[zRE]
 refine zAj func69 rfl ntmps69 results69 rfl ?_
 intro wb St0
 exact yS
theorem zPj(o:Int): zAb prog 113 [i64 o] (i64 (zKJ o)):=by
 refine zAj func113 rfl ntmps113 results113 rfl ?_
 intro wb St0
 have h:o=1\/o=2\/o=3\/o=5\/o=6\/o=11\/o=12\/o=18\/o=19\/o=20\/o=10\/(¬o=1/\¬o=2/\¬o=3/\¬o=5/\¬o=6/\¬o=11/\¬o=12/\¬o=18/\¬o=19/\¬o=20/\¬o=10):=by omega
 rcases h with h|h|h|h|h|h|h|h|h|h|h|h
 all_goals
  skip
  repeat' first|apply en_n|apply zAE|apply zAA|apply zAB|apply w0|refine ayA rfl ?_|refine ayQ rfl ?_|refine zAJ rfl ?_|refine zAI rfl ?_|apply zAO|apply zAP|apply zAM|apply en_r|apply eb_n|apply eb_r|apply zAS|refine res1 rfl ?_
  all_goals first|(rw[h];rfl)|rw[zaq h]
theorem zOG(i:Ins): zAb prog 68 [enIn i] (bl (zJV i)):=by
 obtain⟨op,a,b⟩:=i
 have hG:=zQs op
 have hN:=zPj op
 have hng:=zSY (o:=op)
 refine zAj func68 rfl ntmps68 results68 rfl ?_
 intro wb' St0
 unfold enIn zJV zGg zHk hasA hasB
 dsimp only
 generalize zHD op=gn at *
 generalize zKJ op=nn at *
 cases gn
 ·skip
  exact yG
 ·skip
  exact yG
