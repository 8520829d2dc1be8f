/- Parts. -/
import Derived.Test.YtjcgiiedaccjpaaGreatDoorMBH
set_option maxHeartbeats 16000000
namespace Go.Proofs.YtjcgiiedaccjpaaGreatDoor
open _root_.Go.Proofs.Tryz
open Go.Sx Go.Ev
def snD(n:Nn): D:=.agg [i64 n.kind,str n.text,i64 n.num,i64 n.kids]
abbrev shV(l:List Nn): List Ob:=[.buf true 47 4 (l.map snD)]
theorem zDe(l:List Nn)(n:Nn)(h:l.length<=4001): (node l n).length<=4001:=by
 unfold node;split
 ·exact h
 ·rw[qAO,qAJ,qAa];omega
attribute [local irreducible] zAK Program.underlying Ylds zA3 alex zBc zBL awp zAc zBd zBi zBD zBI zDI zBS zA5 zBT zBY zBe zBs zC7 zBN VCall
theorem zEp(l:List Nn)(n:Nn)(hl:l.length<=4001): zBD prog 266 [.buf 0 l.length,.d (snD n)] (shV l) (.buf 0 (node l n).length) (shV (node l n)):=by
 refine zB3 func266 rfl ntmps266 results266 rfl rfl rfl ?_
 intro wb St0 X fx
 unfold node
 by_cases h:4000<l.length
 ·rw[if_pos h]
  have h1:(l.length:Int)>4000:=by omega
  exact yS
 ·rw[if_neg h]
  have h1:¬(l.length:Int)>4000:=by omega
  repeat' first|(refine ay (hd:=rfl) (zCk (d:=snD n) rfl rfl) ?_)|apply en_n|apply zAE|apply zAA|apply zAD|apply w0|exact zC4 rfl rfl|exact zK1 rfl zAZ rfl|(refine zCi zCf zAa zFU rfl rfl (zAP rfl zAF) rfl)|(apply aApp (id:=0) (hd:=rfl) (hro:=rfl);exact rfl;exact rfl;(first|exact zAq rfl|exact Co_bb rfl rfl rfl|exact Co_nn rfl);(first|exact rfl|exact(by simp));exact rfl;(with_reducible exact zCf);(with_reducible exact zAa);(with_reducible exact zIw);(with_reducible exact zGF);(first|exact zC8 (fun _=>rfl)|exact zDK rfl))|apply ay (hd:=rfl)|exact zA4 rfl|exact zBA rfl|exact zAs rfl|exact zCj rfl zA8|refine zAQ rfl ?_|apply zAO|apply zAM
  all_goals first|omega|(simp only[qAJ,qAa];omega)|skip
  exact zBV (zAV (zCu rfl (by simp) Le_nil) (zAT rfl (by rw[qAh];rfl) zAW) rfl rfl)
theorem zLG(l:List Nn)(hl:l.length<=4001)(n:Int): zBD prog 265 [.d (.agg [i64 n]),.buf 0 l.length] (shV l) (.buf 0 (node l ⟨51,[],n,0⟩).length) (shV (node l ⟨51,[],n,0⟩)):=by
 have hN:=zEp l ⟨51,[],n,0⟩ hl
 generalize node l ⟨51,[],n,0⟩=l' at *
 refine zB3 func265 rfl ntmps265 results265 rfl rfl rfl ?_
 intro wb St0 X fx
 exact yS
theorem zJr(l:List Nn)(hl:l.length<=4001)(s:List UInt8): zBD prog 267 [.d (.agg [str s]),.buf 0 l.length] (shV l) (.buf 0 (node l ⟨52,s,0,0⟩).length) (shV (node l ⟨52,s,0,0⟩)):=by
 have hN:=zEp l ⟨52,s,0,0⟩ hl
 generalize node l ⟨52,s,0,0⟩=l' at *
 refine zB3 func267 rfl ntmps267 results267 rfl rfl rfl ?_
 intro wb St0 X fx
 exact yS
theorem zJs(l:List Nn)(hl:l.length<=4001)(d:D): zBD prog 271 [.d d,.buf 0 l.length] (shV l) (.buf 0 (node l ⟨54,[],0,0⟩).length) (shV (node l ⟨54,[],0,0⟩)):=by
 have hN:=zEp l ⟨54,[],0,0⟩ hl
 generalize node l ⟨54,[],0,0⟩=l' at *
 refine zB3 func271 rfl ntmps271 results271 rfl rfl rfl ?_
 intro wb St0 X fx
 exact yS
theorem zJu(l:List Nn)(hl:l.length<=4001)(d:D): zBD prog 269 [.d d,.buf 0 l.length] (shV l) (.buf 0 (node l ⟨54,[],0,0⟩).length) (shV (node l ⟨54,[],0,0⟩)):=by
 have hN:=zEp l ⟨54,[],0,0⟩ hl
 generalize node l ⟨54,[],0,0⟩=l' at *
 refine zB3 func269 rfl ntmps269 results269 rfl rfl rfl ?_
 intro wb St0 X fx
 exact yS
theorem zJv(l:List Nn)(hl:l.length<=4001)(d:D): zBD prog 270 [.d d,.buf 0 l.length] (shV l) (.buf 0 (node l ⟨54,[],0,0⟩).length) (shV (node l ⟨54,[],0,0⟩)):=by
 have hN:=zEp l ⟨54,[],0,0⟩ hl
 generalize node l ⟨54,[],0,0⟩=l' at *
 refine zB3 func270 rfl ntmps270 results270 rfl rfl rfl ?_
 intro wb St0 X fx
 exact yS
theorem zJt(l:List Nn)(hl:l.length<=4001)(m:List UInt8)(da:List D)(need:Nat)(hn:da.length<need): zBD prog 268 [.d (.ref [str m,.slice da,i64 (need:Int)]),.buf 0 l.length] (shV l) (.buf 0 (node l ⟨54,[],0,0⟩).length) (shV (node l ⟨54,[],0,0⟩)):=by
 have hN:=zEp l ⟨54,[],0,0⟩ hl
 generalize node l ⟨54,[],0,0⟩=l' at *
 have h1:(da.length:Int)<(need:Int):=by omega
 refine zB3 func268 rfl ntmps268 results268 rfl rfl rfl ?_
 intro wb St0 X fx
 exact yS
theorem zTI: Go.Sx.Met prog 101 "triglyph/eval.show" 265:=zIU (by kernel_rfl)
theorem zRB: Go.Sx.Met prog 106 "triglyph/eval.show" 267:=zIU (by kernel_rfl)
theorem zTJ: Go.Sx.Met prog 108 "triglyph/eval.show" 268:=zIU (by kernel_rfl)
theorem zRC: Go.Sx.Met prog 165 "triglyph/eval.show" 271:=zIU (by kernel_rfl)
theorem zRD: Go.Sx.Met prog 112 "triglyph/eval.show" 269:=zIU (by kernel_rfl)
theorem zRE: Go.Sx.Met prog 155 "triglyph/eval.show" 270:=zIU (by kernel_rfl)
def zNH: V->FuncId
 | .num _=>265
 | .text _=>267
 | .con _ _ _=>268
 | .prim _ _=>271
 | .fn _ _ _ _=>269
 | .cell _=>270
theorem zUk(v:V): Go.Sx.Met prog (tyV v) "triglyph/eval.show" (zNH v):=by
 cases v
 ·exact zTI
 ·exact zRB
 ·exact zTJ
 ·exact zRC
 ·exact zRD
 ·exact zRE
theorem hb_v(v:V): zAK prog (zNH v)=true:=by
 cases v
 ·exact zLT
 ·exact zKK
 ·exact zLU
 ·exact zKL
 ·exact zKM
 ·exact zKN
attribute [local irreducible] Go.Sx.Met
abbrev ShTo(bs:List Nat)(v:V)(l l':List Nn): Prop:=zBD prog (zNH v) [.d (payV bs v),.buf 0 l.length] (shV l) (.buf 0 l'.length) (shV l')
theorem zLH(bs:List Nat)(l:List Nn)(hl:l.length<=4001)(m:List UInt8)(args:List V)(need:Nat)(hn:¬args.length<need)(hb:args.length<=1000000)(sz:∀l:List Nn,l.length<=4001->∀v∈args,(sh l v).length<=4001)(ih:∀v∈args,∀l:List Nn,l.length<=4001->ShTo bs v l (sh l v)): ShTo bs (.con m need args) l (sh l (.con m need args)):=by
 have hN:=zEp l ⟨53,m,0,(need:Int)⟩ hl
 have hl0:=zDe l ⟨53,m,0,(need:Int)⟩ hl
 rw[sh,if_neg hn]
 generalize node l ⟨53,m,0,(need:Int)⟩=l0 at *
 generalize hr:shs l0 args=r
 have hal:=zCg bs args
 have hag:∀(i:Nat) v,args[i]?=some v->(zCJ bs args)[i]?=some (encV bs v):=fun i v h=>by rw[zDE,qAG,h];rfl
 show zBD _ _ [.d (.ref [str m,.slice (zCJ bs args),i64 (need:Int)]),_] _ _ _
 generalize zCJ bs args=da at *
 have h1:¬(da.length:Int)<(need:Int):=by omega
 refine zB3 func268 rfl ntmps268 results268 rfl rfl rfl ?_
 intro wb St0 X fx
 repeat' first|apply en_n|apply zAE|apply zAA|apply zAD|apply w0|exact zCT rfl rfl|exact zCh rfl|(refine zAf (cs:=[i64 53,str m,i64 0,i64 (need:Int)]) zC5 zAx (PD_d rfl rfl (PD_d rfl rfl (PD_d rfl rfl zA6))) rfl)|(refine zG4 (by kernel_rfl) ?_;refine zDf [0] zFe (hN) (SArgs_all rfl) rfl rfl (by decide) rfl rfl rfl rfl rfl rfl ?_)|apply ay (hd:=rfl)|exact zAC rfl|(apply zA1;exact rfl;(with_reducible first|exact zFN|exact zDS|exact zDy))|(apply zAR;exact rfl;(with_reducible first|exact zDo|exact zAd|exact zAr))|exact zD8 rfl zEK|exact zA4 rfl|exact zBA rfl|exact zAs rfl|refine zAQ rfl ?_|apply zAI|apply zAO|refine zAu (by kernel_rfl) (by kernel_rfl) ?_
 refine zAv (α:=Nat×List Nn) (fun p=>p.1<=args.length/\p.2.length<=4001/\shs p.2 (args.drop p.1)=r) (fun p=>[(1,.buf 0 p.2.length),(34,.d (.slice da)),(35,.d (i64 (da.length:Int))),(36,.d (i64 (p.1:Int)))]) (fun p=>[.buf true 47 4 (p.2.map snD)]) (fun p=>args.length-p.1) (0,l0) ⟨qAR _,hl0,hr⟩
  (zAV (Le_all rfl) (zAT rfl rfl zAW) rfl rfl) ?_
 rintro⟨i,L⟩ ⟨hi1,hi2,hi3⟩
 dsimp only at hi1 hi2 hi3 ⊢
 rcases qAI i args.length with hlt|hge
 ·obtain⟨v,hv⟩:∃v,args[i]?=some v:=⟨_,qAB hlt⟩
  have hda2:da[(i:Int).toNat]?=some (encV bs v):=hag i v hv
  have hvm:v∈args:=qAE hv
  have hvv:args[i]=v:=by rw[qAB hlt]at hv;injection hv
  rw[qAZ hlt,hvv,shs]at hi3
  have hlt':(i:Int)<(da.length:Int):=by omega
  rw[zFQ]at hda2
  by_cases h4:4000<L.length
  ·have h4':(L.length:Int)>4000:=by omega
   rw[if_pos h4]at hi3
   have hrr:r=L:=by
    rw[<-hi3]
    have key:∀(q:List V),shs L q=L:=by
     intro q
     induction q with
     |nil=>rw[shs]
     |cons u q ihq=>rw[shs,if_pos h4];exact ihq
    exact key _
   subst hrr
   skip
   exact yS
  ·have h4':¬(L.length:Int)>4000:=by omega
   rw[if_neg h4]at hi3
   have hm:=ih v hvm L hi2
   have hsz:=sz L hi2 v hvm
   have hmet:=zUk v
   have hbv:=hb_v v
   rw[ShTo]at hm
   generalize sh L v=L' at *
   generalize zNH v=sf at *
   generalize payV bs v=pd at *
   generalize tyV v=ty at *
   skip
   repeat' first|apply en_n|apply zAE|apply zAA|apply zAD|apply w0|exact zBh rfl rfl|exact zC4 rfl rfl|(apply zBv;exact rfl;exact rfl;(with_reducible exact zBK);omega;exact hda2;exact rfl;exact(by decide))|(refine zUE [0] ?_ hmet hbv hm (SArgs_all rfl) rfl rfl (by decide) rfl rfl rfl rfl rfl rfl ?_;exact rfl)|apply ay (hd:=rfl)|exact zAC rfl|exact zAB rfl|exact zAR rfl zB0|refine zBE rfl rfl ?_|exact zBA rfl|exact zAs rfl|exact zCj rfl zA8|refine zAN rfl ?_|refine zAQ rfl ?_|apply zAI|apply zAO|apply eb_n
   all_goals first|omega|skip
   exact⟨(i+1,L'),⟨hlt,hsz,hi3⟩,by show args.length-(i+1)<args.length-i;omega,zAV (Le_all rfl) (zAT rfl rfl zAW) rfl rfl⟩
 ·have hx:¬(i:Int)<(da.length:Int):=by omega
  rw[List.drop_eq_nil_of_le hge,shs]at hi3
  subst hi3
  skip
  exact yS
mutual
theorem zOW: ∀(v:V) (l:List Nn),l.length<=4001->(sh l v).length<=4001
 | .num _,l,h=>zDe l _ h
 | .text _,l,h=>zDe l _ h
 | .con _ need args,l,h=>by
  rw[sh];split
  ·exact zDe l _ h
  ·exact zOV args _ (zDe l _ h)
 | .prim _ _,l,h=>zDe l _ h
 | .fn _ _ _ _,l,h=>zDe l _ h
 | .cell _,l,h=>zDe l _ h
theorem zOV: ∀(r:List V) (l:List Nn),l.length<=4001->(shs l r).length<=4001
 |[],_,h=>h
 |v::r,l,h=>by
  rw[shs]
  refine zOV r _ ?_
  split
  ·exact h
  ·exact zOW v l h
end
mutual
theorem zUW{R:Rn}{N:Nat}(hN:N<=100000)(bs:List Nat): ∀(v:V),VOk R N v->∀l:List Nn,l.length<=4001->ShTo bs v l (sh l v)
 | .num n,_,l,hl=>zLG l hl n
 | .text t,_,l,hl=>zJr l hl t
 | .con m need args,hv,l,hl=>by
  by_cases hn:args.length<need
  ·rw[sh,if_pos hn]
   exact zJt l hl m (zCJ bs args) need (by rw[zCg];exact hn)
  ·exact zLH bs l hl m args need hn (by have:=hv.1;omega) (fun l hl v _=>zOW v l hl) (zSW hN bs args hv.2)
 | .prim p args,_,l,hl=>zJs l hl _
 | .fn n k self env,_,l,hl=>zJu l hl _
 | .cell i,_,l,hl=>zJv l hl _
theorem zSW{R:Rn}{N:Nat}(hN:N<=100000)(bs:List Nat): ∀(args:List V),VsOk R N args->∀v∈args,∀l:List Nn,l.length<=4001->ShTo bs v l (sh l v)
 |[],_,v,h,_,_=>by cases h
 |u::r,hv,v,h,l,hl=>by
  rcases qAs.1 h with e|e
  ·rw[e];exact zUW hN bs u hv.1 l hl
  ·exact zSW hN bs r hv.2 v e l hl
end
