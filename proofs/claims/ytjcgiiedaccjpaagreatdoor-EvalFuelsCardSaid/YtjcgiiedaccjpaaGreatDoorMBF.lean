/- Parts. -/
import Derived.Test.YtjcgiiedaccjpaaGreatDoorMAR
set_option maxHeartbeats 16000000
namespace Go.Proofs.YtjcgiiedaccjpaaGreatDoor
open _root_.Go.Proofs.Tryz
open Go.Sx Go.Ev
theorem zF1(v:V): (∃n,v=.num n)\/∀n,v≠.num n:=by cases v <;> first|exact .inl ⟨_,rfl⟩|exact .inr fun n h=>by cases h
theorem zGU(v:V): (∃n,v=.text n)\/∀n,v≠.text n:=by cases v <;> first|exact .inl ⟨_,rfl⟩|exact .inr fun n h=>by cases h
theorem zQF(v:V): (∃n,v=.cell n)\/∀n,v≠.cell n:=by cases v <;> first|exact .inl ⟨_,rfl⟩|exact .inr fun n h=>by cases h
attribute [local irreducible] zAK Program.underlying Ylds zA3 alex zBc zBL awp zAc zBd zBi zBD zBI zDI zBS zA5 zBT zBY zBe zBs zC7 zBN VCall
theorem zMW(R:Rn)(s:S)(bs:List Nat)(hbs:bs.length=s.cells.length)(f:FuncId)(a b:V)(hn:(∀n,a≠.num n)\/∀n,b≠.num n): R.To 147 [.ptr 0 0,.d (.slice [encV bs a,encV bs b]),.d (.ref [.clo f []])] s bs (s.stop 4).2 (fun _=>encV [] (.num 0)):=by
 have hs:=zEF R s bs hbs 4
 obtain⟨d1,e1⟩:=zCR bs a
 obtain⟨d2,e2⟩:=zCR bs b
 rcases zF1 a with⟨x,rfl⟩|ha
 ·rcases hn with hn|hn
  ·exact absurd rfl (hn x)
  ·have h2:=zFq hn
   clear hn
   rw[e2]
   generalize tyV b=t2 at *
   refine Rn.to_of hbs func147 rfl ntmps147 results147 rfl ?_
   intro wb St0 X fx
   exact yO
 ·have h1:=zFq ha
  rw[e1]
  clear hn ha
  generalize tyV a=t1 at *
  rcases zF1 b with⟨y,rfl⟩|hb2
  ·skip
   refine Rn.to_of hbs func147 rfl ntmps147 results147 rfl ?_
   intro wb St0 X fx
   exact yO
  ·have h2:=zFq hb2
   rw[e2]
   clear hb2
   generalize tyV b=t2 at *
   refine Rn.to_of hbs func147 rfl ntmps147 results147 rfl ?_
   intro wb St0 X fx
   exact yO
theorem zPC(R:Rn)(s s':S)(bs:List Nat)(hbs:bs.length=s.cells.length)(f:FuncId)(hbf:zAK prog f=true)(x y n:Int)(hf:R.To f ([.ptr 0 0,.d (i64 x),.d (i64 y)]++([]:List D).map SV.d) s bs s' (fun _=>encV [] (.num n))): R.To 147 [.ptr 0 0,.d (.slice [encV bs (.num x),encV bs (.num y)]),.d (.ref [.clo f []])] s bs s' (fun _=>encV [] (.num n)):=by
 refine Rn.to_of hbs func147 rfl ntmps147 results147 rfl ?_
 intro wb St0 X fx
 repeat' first|(refine zBj (zs:=[.int .i64 0]) (hidL (zA2 bs s.cells)) 2 (zAh _) ?_ rfl rfl rfl rfl rfl rfl rfl ?_;with_reducible exact zBR)|(refine zBj (zs:=[.int .i64 0]) (hidL (zA2 bs s.cells)) 3 (zAh _) ?_ rfl rfl rfl rfl rfl rfl rfl ?_;with_reducible exact zBR)|(refine zBC 5 2 2 rfl rfl rfl rfl rfl rfl rfl ?_)|apply en_n|apply zAE|apply zAA|apply zAD|apply w0|(apply zBv;exact rfl;exact rfl;(with_reducible exact zBK);exact(by decide);exact rfl;exact rfl;exact(by decide))|(apply zDh;exact rfl;with_reducible exact zBq)|exact zCm rfl zRp|(refine zQW 4 [0,1] rfl hbf (hf) rfl rfl rfl rfl (SArgs_all rfl) rfl rfl (by decide) rfl rfl rfl rfl rfl rfl rfl (fun y0 hy0=>⟨rfl,rfl,rfl,zAb hy0.1 hbs hy0.2⟩) (fun z hz=>?_))|apply ay (hd:=rfl)|exact zAC rfl|exact zAB rfl|exact zAR rfl zB0|exact zBX rfl|exact zAj rfl rfl|exact zAe rfl rfl|exact zAG rfl|exact zAH rfl zD5|exact zAJ rfl zCn rfl rfl|refine w1 rfl rfl ?_|(refine w0' ?_)|(apply zAl;exact rfl;exact rfl;exact rfl;(with_reducible exact zCp);exact rfl;exact rfl;exact rfl;exact rfl)|refine zAQ rfl ?_|apply zAO
 all_goals exact Rn.retO hz rfl rfl rfl
theorem b1_E(R:Rn)(s:S)(bs:List Nat)(hbs:bs.length=s.cells.length)(a b:Int): R.To 87 [.ptr 0 0,.d (i64 a),.d (i64 b)] s bs s (fun _=>encV [] (.num (Wn (a+b)))):=by
 refine Rn.to_of hbs func87 rfl ntmps87 results87 rfl ?_
 intro wb St0 X fx
 exact yT
theorem b2_E(R:Rn)(s:S)(bs:List Nat)(hbs:bs.length=s.cells.length)(a b:Int): R.To 89 [.ptr 0 0,.d (i64 a),.d (i64 b)] s bs s (fun _=>encV [] (.num (Wn (a-b)))):=by
 refine Rn.to_of hbs func89 rfl ntmps89 results89 rfl ?_
 intro wb St0 X fx
 exact yT
theorem b3_E(R:Rn)(s:S)(bs:List Nat)(hbs:bs.length=s.cells.length)(a b:Int): R.To 91 [.ptr 0 0,.d (i64 a),.d (i64 b)] s bs s (fun _=>encV [] (.num (Wn (a*b)))):=by
 refine Rn.to_of hbs func91 rfl ntmps91 results91 rfl ?_
 intro wb St0 X fx
 exact yT
theorem zL2(R:Rn)(s:S)(bs:List Nat)(hbs:bs.length=s.cells.length)(n:Int): R.To 95 [.ptr 0 0,.d (i64 n),.d (i64 0)] s bs s (fun _=>encV [] (.num n)):=by
 refine Rn.to_of hbs func95 rfl ntmps95 results95 rfl ?_
 intro wb St0 X fx
 exact yT
theorem zL3(R:Rn)(s:S)(bs:List Nat)(hbs:bs.length=s.cells.length)(n:Int): R.To 95 [.ptr 0 0,.d (i64 n),.d (i64 10)] s bs (s.raise (-2)).2 (fun _=>encV [] (.num 0)):=by
 have hs:=zI3 R s bs hbs (-2)
 refine Rn.to_of hbs func95 rfl ntmps95 results95 rfl ?_
 intro wb St0 X fx
 exact yK
theorem zV1(R:Rn)(s:S)(bs:List Nat)(hbs:bs.length=s.cells.length)(a b:Int)(h:¬Wn b=0): R.To 93 [.ptr 0 0,.d (i64 a),.d (i64 b)] s bs s (fun _=>encV [] (.num (Wn ((Wn a).tdiv (Wn b))))):=by
 have hc:=zOJ a b
 rw[zE1 h,show divV a b=Wn ((Wn a).tdiv (Wn b))from if_neg h]at hc
 have hs:=zL2 R s bs hbs (Wn ((Wn a).tdiv (Wn b)))
 refine Rn.to_of hbs func93 rfl ntmps93 results93 rfl ?_
 intro wb St0 X fx
 exact yK
theorem zV2(R:Rn)(s:S)(bs:List Nat)(hbs:bs.length=s.cells.length)(a b:Int)(h:Wn b=0): R.To 93 [.ptr 0 0,.d (i64 a),.d (i64 b)] s bs (s.raise (-2)).2 (fun _=>encV [] (.num 0)):=by
 have hc:=zOJ a b
 rw[zE0 h,show divV a b=0 from if_pos h]at hc
 have hs:=zL3 R s bs hbs 0
 refine Rn.to_of hbs func93 rfl ntmps93 results93 rfl ?_
 intro wb St0 X fx
 exact yK
theorem zVz(R:Rn)(s:S)(bs:List Nat)(hbs:bs.length=s.cells.length)(a b:Int)(h:¬Wn b=0): R.To 96 [.ptr 0 0,.d (i64 a),.d (i64 b)] s bs s (fun _=>encV [] (.num ((Wn a).tmod (Wn b)))):=by
 have hc:=zOI a b
 rw[zE1 h,show modV a b=(Wn a).tmod (Wn b)from if_neg h]at hc
 have hs:=zL2 R s bs hbs ((Wn a).tmod (Wn b))
 refine Rn.to_of hbs func96 rfl ntmps96 results96 rfl ?_
 intro wb St0 X fx
 exact yK
theorem zV0(R:Rn)(s:S)(bs:List Nat)(hbs:bs.length=s.cells.length)(a b:Int)(h:Wn b=0): R.To 96 [.ptr 0 0,.d (i64 a),.d (i64 b)] s bs (s.raise (-2)).2 (fun _=>encV [] (.num 0)):=by
 have hc:=zOI a b
 rw[zE0 h,show modV a b=0 from if_pos h]at hc
 have hs:=zL3 R s bs hbs 0
 refine Rn.to_of hbs func96 rfl ntmps96 results96 rfl ?_
 intro wb St0 X fx
 exact yK
theorem zSk(b:Bool): zAc prog 99 [bl b] (encV [] (.num (if b=true then 1 else 0))):=by
 cases b
 all_goals refine zAX func99 rfl ntmps99 results99 rfl ?_
 all_goals intro wb St0
 all_goals skip
 all_goals exact yU
theorem b6_E(R:Rn)(s:S)(bs:List Nat)(hbs:bs.length=s.cells.length)(a b:Int): R.To 98 [.ptr 0 0,.d (i64 a),.d (i64 b)] s bs s (fun _=>encV [] (bit (a=b))):=by
 have hc:=zSk (decide (a=b))
 rw[show encV [] (.num (if decide (a=b)=true then 1 else 0))=encV [] (bit (a=b)) by unfold bit;simp]at hc
 generalize bit (a=b)=v at *
 refine Rn.to_of hbs func98 rfl ntmps98 results98 rfl ?_
 intro wb St0 X fx
 exact yT
theorem b7_E(R:Rn)(s:S)(bs:List Nat)(hbs:bs.length=s.cells.length)(a b:Int): R.To 100 [.ptr 0 0,.d (i64 a),.d (i64 b)] s bs s (fun _=>encV [] (bit (a<b))):=by
 have hc:=zSk (decide (a<b))
 rw[show encV [] (.num (if decide (a<b)=true then 1 else 0))=encV [] (bit (a<b)) by unfold bit;simp]at hc
 generalize bit (a<b)=v at *
 refine Rn.to_of hbs func100 rfl ntmps100 results100 rfl ?_
 intro wb St0 X fx
 exact yT
