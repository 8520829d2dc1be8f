/- Parts. -/
import Derived.Test.YtjcgiiedaccjpaaGreatDoorPBH
set_option maxHeartbeats 16000000
namespace Go.Proofs.YtjcgiiedaccjpaaGreatDoor
open _root_.Go.Proofs.Tryz
open Go.Sx Go.Ev
def snD(n:Nn): D:=.agg [i64 n.kind,str n.text,i64 n.num,i64 n.kids]
abbrev shV(l:List Nn): List Ob:=[.buf true 47 4 (l.map snD)]
theorem zFI(l:List Nn)(n:Nn)(h:l.length<=4001): (node l n).length<=4001:=by
 unfold node;split
 ·exact h
 ·rw[qAH,qAK,qAb];omega
attribute [local irreducible] zAQ Program.underlying Ylds zBJ alex zBk zBZ awp zAX FCall zBo zBR zBX zEg zBb zBD zBd zBj zBn zBu zEL zBP VCall
theorem zG6(l:List Nn)(n:Nn)(hl:l.length<=4001): zBR prog 266 [.buf 0 l.length,.d (snD n)] (shV l) (.buf 0 (node l n).length) (shV (node l n)):=by
 refine zCl func266 rfl ntmps266 results266 rfl rfl rfl ?_
 intro wb St0 X fx
 unfold node
 by_cases h:4000<l.length
 ·rw[if_pos h]
  have h1:(l.length:Int)>4000:=by omega
  repeat' first|(refine ay (hd:=rfl) (zDr (d:=snD n) rfl rfl) ?_)|apply en_n|apply zAE|apply zAA|apply zAD|apply w0|exact zDk rfl rfl|apply ay (hd:=rfl)|exact zA0 rfl|exact zBB rfl|exact zAp rfl|exact zC6 rfl zA5|refine zAJ rfl ?_|apply zAN|apply en_r
  all_goals exact zB8 (zAV (Le_all rfl) (zAT rfl rfl zAW) rfl rfl)
 ·rw[if_neg h]
  have h1:¬(l.length:Int)>4000:=by omega
  repeat' first|(refine ay (hd:=rfl) (zDr (d:=snD n) rfl rfl) ?_)|apply en_n|apply zAE|apply zAA|apply zAD|apply w0|exact zPI rfl zAh rfl|(refine zCI zCn zAe zFn rfl rfl (zAL rfl zAF) rfl)|refine aApA (id:=0) ?_ ?_|refine ayA rfl ?_|refine ayQ rfl ?_|apply ay (hd:=rfl)|refine zAK rfl ?_|apply zAM|apply zAN
  all_goals first|omega|(simp only[qAK,qAb];omega)|skip
  exact zB8 (zAV (zCR rfl sI Le_nil) (zAT rfl (by rw[qAZ];rfl) zAW) rfl rfl)
theorem zPe(l:List Nn)(hl:l.length<=4001)(n:Int): zBR prog 265 [.d (.agg [i64 n]),.buf 0 l.length] (shV l) (.buf 0 (node l ⟨51,[],n,0⟩).length) (shV (node l ⟨51,[],n,0⟩)):=by
 have hN:=zG6 l ⟨51,[],n,0⟩ hl
 generalize node l ⟨51,[],n,0⟩=l' at *
 refine zCl func265 rfl ntmps265 results265 rfl rfl rfl ?_
 intro wb St0 X fx
 repeat' first|(refine ay (hd:=rfl) (zDr (d:=.agg [i64 n]) rfl rfl) ?_)|apply en_n|apply zAE|apply zAA|apply zAD|apply w0|exact zEe rfl zFz|(refine zAo (cs:=[i64 51,str [],i64 n,i64 0]) zDh zA2 (PD_d rfl rfl (PD_d rfl rfl zBE)) rfl)|(refine zEt [0] zH7 (hN) (SArgs_all rfl) rfl rfl (by decide) rfl rfl rfl rfl rfl rfl ?_)|apply ay (hd:=rfl)|exact zAR rfl zBi|exact zA0 rfl|exact zBB rfl|exact zAp rfl|apply zAN
 all_goals exact zB8 (zAV (Le_all rfl) (zAT rfl rfl zAW) rfl rfl)
theorem zNu(l:List Nn)(hl:l.length<=4001)(s:List UInt8): zBR prog 267 [.d (.agg [str s]),.buf 0 l.length] (shV l) (.buf 0 (node l ⟨52,s,0,0⟩).length) (shV (node l ⟨52,s,0,0⟩)):=by
 have hN:=zG6 l ⟨52,s,0,0⟩ hl
 generalize node l ⟨52,s,0,0⟩=l' at *
 refine zCl func267 rfl ntmps267 results267 rfl rfl rfl ?_
 intro wb St0 X fx
 repeat' first|(refine ay (hd:=rfl) (zDr (d:=.agg [str s]) rfl rfl) ?_)|apply en_n|apply zAE|apply zAA|apply zAD|apply w0|exact zEe rfl zGf|(refine zAo (cs:=[i64 52,str s,i64 0,i64 0]) zDh zA2 (PD_d rfl rfl (PD_d rfl rfl zBE)) rfl)|(refine zEt [0] zH7 (hN) (SArgs_all rfl) rfl rfl (by decide) rfl rfl rfl rfl rfl rfl ?_)|apply ay (hd:=rfl)|exact zAR rfl zAf|exact zA0 rfl|exact zBB rfl|exact zAp rfl|apply zAN
 all_goals exact zB8 (zAV (Le_all rfl) (zAT rfl rfl zAW) rfl rfl)
theorem zNw(l:List Nn)(hl:l.length<=4001)(d:D): zBR prog 271 [.d d,.buf 0 l.length] (shV l) (.buf 0 (node l ⟨54,[],0,0⟩).length) (shV (node l ⟨54,[],0,0⟩)):=by
 have hN:=zG6 l ⟨54,[],0,0⟩ hl
 generalize node l ⟨54,[],0,0⟩=l' at *
 refine zCl func271 rfl ntmps271 results271 rfl rfl rfl ?_
 intro wb St0 X fx
 repeat' first|apply en_n|apply zAE|apply zAA|apply zAD|apply w0|(refine zAo (cs:=[i64 54,str [],i64 0,i64 0]) zDh zA2 (PD_d rfl rfl zBE) rfl)|(refine zEt [0] zH7 (hN) (SArgs_all rfl) rfl rfl (by decide) rfl rfl rfl rfl rfl rfl ?_)|apply ay (hd:=rfl)|exact zA0 rfl|exact zBB rfl|exact zAp rfl|apply zAN
 all_goals exact zB8 (zAV (Le_all rfl) (zAT rfl rfl zAW) rfl rfl)
theorem zNy(l:List Nn)(hl:l.length<=4001)(d:D): zBR prog 269 [.d d,.buf 0 l.length] (shV l) (.buf 0 (node l ⟨54,[],0,0⟩).length) (shV (node l ⟨54,[],0,0⟩)):=by
 have hN:=zG6 l ⟨54,[],0,0⟩ hl
 generalize node l ⟨54,[],0,0⟩=l' at *
 refine zCl func269 rfl ntmps269 results269 rfl rfl rfl ?_
 intro wb St0 X fx
 repeat' first|apply en_n|apply zAE|apply zAA|apply zAD|apply w0|(refine zAo (cs:=[i64 54,str [],i64 0,i64 0]) zDh zA2 (PD_d rfl rfl zBE) rfl)|(refine zEt [0] zH7 (hN) (SArgs_all rfl) rfl rfl (by decide) rfl rfl rfl rfl rfl rfl ?_)|apply ay (hd:=rfl)|exact zA0 rfl|exact zBB rfl|exact zAp rfl|apply zAN
 all_goals exact zB8 (zAV (Le_all rfl) (zAT rfl rfl zAW) rfl rfl)
theorem zNz(l:List Nn)(hl:l.length<=4001)(d:D): zBR prog 270 [.d d,.buf 0 l.length] (shV l) (.buf 0 (node l ⟨54,[],0,0⟩).length) (shV (node l ⟨54,[],0,0⟩)):=by
 have hN:=zG6 l ⟨54,[],0,0⟩ hl
 generalize node l ⟨54,[],0,0⟩=l' at *
 refine zCl func270 rfl ntmps270 results270 rfl rfl rfl ?_
 intro wb St0 X fx
 repeat' first|apply en_n|apply zAE|apply zAA|apply zAD|apply w0|(refine zAo (cs:=[i64 54,str [],i64 0,i64 0]) zDh zA2 (PD_d rfl rfl zBE) rfl)|(refine zEt [0] zH7 (hN) (SArgs_all rfl) rfl rfl (by decide) rfl rfl rfl rfl rfl rfl ?_)|apply ay (hd:=rfl)|exact zA0 rfl|exact zBB rfl|exact zAp rfl|apply zAN
 all_goals exact zB8 (zAV (Le_all rfl) (zAT rfl rfl zAW) rfl rfl)
theorem zNx(l:List Nn)(hl:l.length<=4001)(m:List UInt8)(da:List D)(need:Nat)(hn:da.length<need): zBR prog 268 [.d (.ref [str m,.slice da,i64 (need:Int)]),.buf 0 l.length] (shV l) (.buf 0 (node l ⟨54,[],0,0⟩).length) (shV (node l ⟨54,[],0,0⟩)):=by
 have hN:=zG6 l ⟨54,[],0,0⟩ hl
 generalize node l ⟨54,[],0,0⟩=l' at *
 have h1:(da.length:Int)<(need:Int):=by omega
 refine zCl func268 rfl ntmps268 results268 rfl rfl rfl ?_
 intro wb St0 X fx
 repeat' first|apply en_n|apply zAE|apply zAA|apply zAD|apply w0|exact zA9 rfl rfl|exact zDq rfl|(refine zAo (cs:=[i64 54,str [],i64 0,i64 0]) zDh zA2 (PD_d rfl rfl zBE) rfl)|(refine zEt [0] zH7 (hN) (SArgs_all rfl) rfl rfl (by decide) rfl rfl rfl rfl rfl rfl ?_)|apply ay (hd:=rfl)|exact zAC rfl|(apply zAs;exact rfl;(with_reducible first|exact zE5|exact zFl))|(apply zAR;exact rfl;(with_reducible first|exact zFa|exact zAa))|exact zCo rfl zGJ|exact zA0 rfl|exact zBB rfl|exact zAp rfl|refine zAJ rfl ?_|apply zAN|refine zAy (by kernel_rfl) (by kernel_rfl) ?_|apply en_r
 all_goals exact zB8 (zAV (Le_all rfl) (zAT rfl rfl zAW) rfl rfl)
theorem zZu: Go.Sx.Met prog 101 "triglyph/eval.show" 265:=zL1 kR
theorem zXB: Go.Sx.Met prog 106 "triglyph/eval.show" 267:=zL1 kR
theorem zZv: Go.Sx.Met prog 108 "triglyph/eval.show" 268:=zL1 kR
theorem zXC: Go.Sx.Met prog 165 "triglyph/eval.show" 271:=zL1 kR
theorem zXD: Go.Sx.Met prog 112 "triglyph/eval.show" 269:=zL1 kR
theorem zXE: Go.Sx.Met prog 155 "triglyph/eval.show" 270:=zL1 kR
def zSC: V->FuncId
 | .num _=>265
 | .text _=>267
 | .con _ _ _=>268
 | .prim _ _=>271
 | .fn _ _ _ _=>269
 | .cell _=>270
theorem zbV(v:V): Go.Sx.Met prog (tyV v) "triglyph/eval.show" (zSC v):=by
 cases v
 ·exact zZu
 ·exact zXB
 ·exact zZv
 ·exact zXC
 ·exact zXD
 ·exact zXE
theorem hb_v(v:V): zAQ prog (zSC v)=true:=by
 cases v
 ·exact zPu
 ·exact zOa
 ·exact zPv
 ·exact zOb
 ·exact zOc
 ·exact zOd
attribute [local irreducible] Go.Sx.Met
abbrev ShTo(bs:List Nat)(v:V)(l l':List Nn): Prop:=zBR prog (zSC v) [.d (payV bs v),.buf 0 l.length] (shV l) (.buf 0 l'.length) (shV l')
theorem zPf(bs:List Nat)(l:List Nn)(hl:l.length<=4001)(m:List UInt8)(args:List V)(need:Nat)(hn:¬args.length<need)(hb:args.length<=1000000)(sz:∀l:List Nn,l.length<=4001->∀v∈args,(sh l v).length<=4001)(ih:∀v∈args,∀l:List Nn,l.length<=4001->ShTo bs v l (sh l v)): ShTo bs (.con m need args) l (sh l (.con m need args)):=by
 have hN:=zG6 l ⟨53,m,0,(need:Int)⟩ hl
 have hl0:=zFI l ⟨53,m,0,(need:Int)⟩ hl
 rw[sh,if_neg hn]
 generalize node l ⟨53,m,0,(need:Int)⟩=l0 at *
 generalize hr:shs l0 args=r
 have hal:=zDp bs args
 have hag:∀(i:Nat) v,args[i]?=some v->(zDQ bs args)[i]?=some (encV bs v):=fun i v h=>by rw[zEl,qAJ,h];rfl
 show zBR _ _ [.d (.ref [str m,.slice (zDQ bs args),i64 (need:Int)]),_] _ _ _
 generalize zDQ bs args=da at *
 have h1:¬(da.length:Int)<(need:Int):=by omega
 refine zCl func268 rfl ntmps268 results268 rfl rfl rfl ?_
 intro wb St0 X fx
 repeat' first|apply en_n|apply zAE|apply zAA|apply zAD|apply w0|exact zDq rfl|(refine zAo (cs:=[i64 53,str m,i64 0,i64 (need:Int)]) zDh zA2 (PD_d rfl rfl (PD_d rfl rfl (PD_d rfl rfl zBE))) rfl)|(refine zEN kR ?_;refine zEt [0] zH7 (hN) (SArgs_all rfl) rfl rfl dC rfl rfl rfl rfl rfl rfl ?_)|refine ayA rfl ?_|refine ayQ rfl ?_|apply ay (hd:=rfl)|exact zCo rfl zGJ|refine zAK rfl ?_|apply zAH|apply zAM|refine awDA ?_
 refine zAt (α:=Nat×List Nn) (fun p=>p.1<=args.length/\p.2.length<=4001/\shs p.2 (args.drop p.1)=r) (fun p=>[(1,.buf 0 p.2.length),(34,.d (.slice da)),(35,.d (i64 (da.length:Int))),(36,.d (i64 (p.1:Int)))]) (fun p=>[.buf true 47 4 (p.2.map snD)]) (fun p=>args.length-p.1) (0,l0) ⟨qAO _,hl0,hr⟩
  (zAV (Le_all rfl) (zAT rfl rfl zAW) rfl rfl) ?_
 rintro⟨i,L⟩ ⟨hi1,hi2,hi3⟩
 dsimp only at hi1 hi2 hi3 ⊢
 rcases qAF i args.length with hlt|hge
 ·obtain⟨v,hv⟩:∃v,args[i]?=some v:=⟨_,qAB hlt⟩
  have hda2:da[(i:Int).toNat]?=some (encV bs v):=hag i v hv
  have hvm:v∈args:=qAC hv
  have hvv:args[i]=v:=by rw[qAB hlt]at hv;injection hv
  rw[qAW hlt,hvv,shs]at hi3
  have hlt':(i:Int)<(da.length:Int):=by omega
  rw[zHl]at hda2
  by_cases h4:4000<L.length
  ·have h4':(L.length:Int)>4000:=by omega
   rw[if_pos h4]at hi3
   have hrr:r=L:=by
    rw[<-hi3]
    have key:∀(q:List V),shs L q=L:=by
     intro q
     induction q with
     |nil=>rw[shs]
     |cons u q ihq=>rw[shs,if_pos h4];exact ihq
    exact key _
   subst hrr
   skip
   repeat' first|apply en_n|apply zAE|apply zAA|apply zAD|apply w0|exact zA9 rfl rfl|exact zDk rfl rfl|(apply zBG;exact rfl;exact rfl;(with_reducible exact zCE);omega;exact hda2;exact rfl;exact(by decide))|apply ay (hd:=rfl)|exact zAB rfl|exact zAR rfl zC1|exact zBB rfl|exact zAp rfl|exact zC6 rfl zA5|refine zAJ rfl ?_|apply zAH|apply zAM|apply zAN|apply zAz|apply en_e|apply eb_e|refine eb_o rfl ?_
   all_goals exact zB8 (zAV (Le_all rfl) (zAT rfl rfl zAW) rfl rfl)
  ·have h4':¬(L.length:Int)>4000:=by omega
   rw[if_neg h4]at hi3
   have hm:=ih v hvm L hi2
   have hsz:=sz L hi2 v hvm
   have hmet:=zbV v
   have hbv:=hb_v v
   rw[ShTo]at hm
   generalize sh L v=L' at *
   generalize zSC v=sf at *
   generalize payV bs v=pd at *
   generalize tyV v=ty at *
   skip
   repeat' first|apply en_n|apply zAE|apply zAA|apply zAD|apply w0|(apply zBG;exact rfl;exact rfl;(with_reducible exact zCE);omega;exact hda2;exact rfl;exact dC)|(refine zax [0] ?_ hmet hbv hm (SArgs_all rfl) rfl rfl dC rfl rfl rfl rfl rfl rfl ?_;exact rfl)|refine ayA rfl ?_|refine ayQ rfl ?_|apply ay (hd:=rfl)|refine zBN rfl rfl ?_|refine zAJ rfl ?_|refine zAK rfl ?_|apply zAH|apply zAM|apply eb_n
   all_goals first|omega|skip
   exact⟨(i+1,L'),⟨hlt,hsz,hi3⟩,by show args.length-(i+1)<args.length-i;omega,zAV (Le_all rfl) (zAT rfl rfl zAW) rfl rfl⟩
 ·have hx:¬(i:Int)<(da.length:Int):=by omega
  rw[List.drop_eq_nil_of_le hge,shs]at hi3
  subst hi3
  skip
  repeat' first|apply en_n|apply zAE|apply zAA|apply zAD|apply w0|exact zBr rfl rfl|apply ay (hd:=rfl)|exact zBB rfl|exact zAp rfl|refine zAK rfl ?_|apply zAN|apply zAz|apply en_e|apply eb_e
  all_goals exact zB8 (zAV (Le_all rfl) (zAT rfl rfl zAW) rfl rfl)
mutual
theorem zN1: ∀(v:V) (l:List Nn),l.length<=4001->(sh l v).length<=4001
 | .num _,l,h=>zFI l _ h
 | .text _,l,h=>zFI l _ h
 | .con _ need args,l,h=>by
  rw[sh];split
  ·exact zFI l _ h
  ·exact zTg args _ (zFI l _ h)
 | .prim _ _,l,h=>zFI l _ h
 | .fn _ _ _ _,l,h=>zFI l _ h
 | .cell _,l,h=>zFI l _ h
theorem zTg: ∀(r:List V) (l:List Nn),l.length<=4001->(shs l r).length<=4001
 |[],_,h=>h
 |v::r,l,h=>by
  rw[shs]
  refine zTg r _ ?_
  split
  ·exact h
  ·exact zN1 v l h
end
mutual
theorem zbI{R:Rn}{N:Nat}(hN:N<=100000)(bs:List Nat): ∀(v:V),VOk R N v->∀l:List Nn,l.length<=4001->ShTo bs v l (sh l v)
 | .num n,_,l,hl=>zPe l hl n
 | .text t,_,l,hl=>zNu l hl t
 | .con m need args,hv,l,hl=>by
  by_cases hn:args.length<need
  ·rw[sh,if_pos hn]
   exact zNx l hl m (zDQ bs args) need (by rw[zDp];exact hn)
  ·exact zPf bs l hl m args need hn (by have:=hv.1;omega) (fun l hl v _=>zN1 v l hl) (zYf hN bs args hv.2)
 | .prim p args,_,l,hl=>zNw l hl _
 | .fn n k self env,_,l,hl=>zNy l hl _
 | .cell i,_,l,hl=>zNz l hl _
theorem zYf{R:Rn}{N:Nat}(hN:N<=100000)(bs:List Nat): ∀(args:List V),VsOk R N args->∀v∈args,∀l:List Nn,l.length<=4001->ShTo bs v l (sh l v)
 |[],_,v,h,_,_=>by cases h
 |u::r,hv,v,h,l,hl=>by
  rcases qAq.1 h with e|e
  ·rw[e];exact zbI hN bs u hv.1 l hl
  ·exact zYf hN bs r hv.2 v e l hl
end
end Go.Proofs.YtjcgiiedaccjpaaGreatDoor
namespace Go.Proofs.YtjcgiiedaccjpaaGreatDoor
open _root_.Go.Proofs.Tryz
open Go.Sx Go.Ev
theorem zP0{C:Ctx}{Q:Exit->Sl->List Ob->Prop}{σ:Sl}{η:List Ob}{id:Nat}{o:Array Oper}{dr:Bool}{c:Code}(h:Stop (awp C ((Code.region id o dr).seq c) Q σ η)): awp C ((Code.region id o dr).seq c) Q σ η:=by
 unfold Stop at h;exact h
def snS(s:Sn): D:=.agg [i64 s.fin,.slice (s.vals.map snD),i64 s.num,.slice (s.out.map str),i64 s.steps]
def sn0: Sn:=⟨0,[],0,[],0⟩
attribute [local irreducible] zAQ Program.underlying Ylds zBJ alex zBk zBZ awp zAX FCall zBo zBR zBX zEg zBb zBD zBd zBj zBn zBu zEL zBP VCall
theorem zRc(T:List Dt)(L:List Nd)(fuel e:Int)(he:e≠0)(hV:zAX prog 12 [dts T,zAu L] (i64 e)): zAX prog 8 [dts T,zAu L,i64 fuel] (.tup [snS sn0,i64 e]):=by
 refine zBw func8 rfl ntmps8 results8 rfl ?_
 intro wb St0
 repeat' first|apply en_n|apply zAE|apply zAA|apply zAD|apply w0|(refine zAv ?_)|(refine zBI ?_)|(refine RV_c rfl rfl zBs rfl rfl ?_ ?_)|(refine RV_d rfl ?_ ?_)|exact zBg|(with_reducible exact rfl)|(refine zAo (cs:=[i64 0,.slice [],i64 0,.slice [],i64 0]) zEB zCO zBE rfl)|(apply zAq;exact rfl;exact rfl;exact rfl;exact zBs;exact rfl;exact rfl;exact rfl;exact rfl)|exact zCC rfl rfl|(refine zAP zGG hV (CoLA rfl))|(apply zA4 (hd:=rfl) (hro:=rfl);(with_reducible exact zCO))|apply ay (hd:=rfl)|exact zAC rfl|exact zAB rfl|(refine w0' ?_)|refine zAJ rfl ?_|apply zAN|apply en_r
 all_goals rfl
theorem zVd(T:List Dt)(L:List Nd)(fuel:Int)(hf:fuel<0\/100000<fuel)(hV:zAX prog 12 [dts T,zAu L] (i64 0)): zAX prog 8 [dts T,zAu L,i64 fuel] (.tup [snS sn0,i64 141]):=by
 refine zBw func8 rfl ntmps8 results8 rfl ?_
 intro wb St0
 rcases hf with hf|hf
 ·skip
  repeat' first|apply en_n|apply zAE|apply zAA|apply zAD|apply w0|(refine zAv ?_)|(refine zBI ?_)|(refine RV_c rfl rfl zBs rfl rfl ?_ ?_)|(refine RV_d rfl ?_ ?_)|exact zBg|(with_reducible exact rfl)|(refine zAo (cs:=[i64 0,.slice [],i64 0,.slice [],i64 0]) zEB zCO zBE rfl)|(apply zAq;exact rfl;exact rfl;exact rfl;exact zBs;exact rfl;exact rfl;exact rfl;exact rfl)|exact zA9 rfl rfl|exact zBQ rfl rfl|refine k0u (hd:=rfl) rfl rfl ?_|(refine zAP zGG hV (CoLA rfl))|(apply zA4 (hd:=rfl) (hro:=rfl);(with_reducible exact zCO))|apply ay (hd:=rfl)|exact zAC rfl|exact zAB rfl|exact zAj rfl rfl|(refine w0' ?_)|refine zAJ rfl ?_|refine zAK rfl ?_|apply zAM|apply zAN|apply en_r
  all_goals rfl
 ·have hf':¬fuel<0:=by omega
  repeat' first|apply en_n|apply zAE|apply zAA|apply zAD|apply w0|(refine zAv ?_)|(refine zBI ?_)|(refine RV_c rfl rfl zBs rfl rfl ?_ ?_)|(refine RV_d rfl ?_ ?_)|exact zBg|(with_reducible exact rfl)|(refine zAo (cs:=[i64 0,.slice [],i64 0,.slice [],i64 0]) zEB zCO zBE rfl)|(apply zAq;exact rfl;exact rfl;exact rfl;exact zBs;exact rfl;exact rfl;exact rfl;exact rfl)|exact zBr rfl rfl|exact zDk rfl rfl|exact zBQ rfl rfl|(refine zAP zGG hV (CoLA rfl))|(apply zA4 (hd:=rfl) (hro:=rfl);(with_reducible exact zCO))|apply ay (hd:=rfl)|exact zAC rfl|exact zAB rfl|exact zAi rfl rfl|refine w1 rfl rfl ?_|(refine w0' ?_)|refine zAJ rfl ?_|refine zAK rfl ?_|apply zAM|apply zAN|apply en_r
  all_goals rfl
attribute [local irreducible] Go.Sx.Met
theorem zNJ{R:Rn}(hR:R.Ok)(h0:ExAt R 0)(hV:zAX prog 12 [dts R.T,zAu R.L] (i64 0)): zAX prog 8 [dts R.T,zAu R.L,i64 (R.fuel:Int)] (.tup [snS (Go.Ev.seen shwW R.pg),i64 0]):=by
 have hfu:=hR.fuel
 have hC:Cn R (R.fuel+1) Go.Ev.start 0:=⟨trivial,trivial,qAN _,qAN _,qAO _,Nat.lt_succ_self _⟩
 have hE:Ce R Go.Ev.start 0 .nil:=⟨trivial,trivial⟩
 have hX:=zYr hR (R.fuel+1) Go.Ev.start 0 .nil [] 0 hC h0 hE rfl
 have hN:=hC.next h0 hE
 rw[ExTo]at hX
 unfold Go.Ev.seen
 rw[show R.pg.fuel=R.fuel from rfl]
 generalize exp shwW R.pg (R.fuel+1) Go.Ev.start 0 .nil=r at *
 obtain⟨v,s⟩:=r
 have hN1:0+(s.steps-Go.Ev.start.steps)<=100000:=by have:=hN.cn.le;dsimp only at this;omega
 have hlen:=zN1 v [] (qAO _)
 have hS:∀y,zBR prog (zSC v) [.d (payV y v),.nil] [] (.buf 0 (sh [] v).length) (shV (sh [] v)):=fun y=>zOH (k:=0) [.d (payV y v)] [] rfl (zbI hN1 y v hN.vo [] (qAO _))
 have hmet:=zbV v
 have hbv:=hb_v v
 dsimp only at hX ⊢
 rw[zIr]at hX
 clear hC hE hN hN1 h0 hR
 generalize sh [] v=L' at *
 generalize zSC v=sf at *
 generalize tyV v=ty at *
 have hn1:¬(R.fuel:Int)<0:=by omega
 have hn2:¬(R.fuel:Int)>100000:=by omega
 refine zBw func8 rfl ntmps8 results8 rfl ?_
 intro wb St0
 repeat' first|(refine zP0 (id:=7) ?_)|(apply zPF;(with_reducible exact zah);(with_reducible exact zaf);exact zLS rfl (zLS rfl (zLS rfl zZC));exact rfl;exact rfl;exact rfl;exact rfl)|apply en_n|apply zAE|apply zAA|apply zAD|apply w0|exact ycA zGG hV|refine aAlA ?_|refine ayA rfl ?_|refine ayQ rfl ?_|apply ay (hd:=rfl)|refine w1 rfl rfl ?_|refine zAK rfl ?_|apply zAM
 all_goals first|omega|skip
 refine Stop.go ?_
 refine zJi 1 4 true 9 1 rfl rfl rfl ?_
 refine zDJ (s:=[(6,.ptr 0 0),(9,.ptr 1 0)]) (h:=[.box [.d (i64 0),.nil,.d (i64 0),.nil,.d (i64 0)],.box [.d (zAu R.L),.d (dts R.T),.d (i64 (R.fuel:Int)),.d (i64 0),.buf 2 0,.d (i64 0),.d (i64 0)],.buf true 9 1 []]) (zAV (Le_all rfl) (zE9 rfl zZB (zE9 rfl zZB (zAT rfl rfl zAW))) rfl rfl) ?_
 skip
 repeat' first|(refine zP0 (id:=8) ?_)|apply en_n|apply zAE|apply zAA|apply zAD|apply w0|(refine zCH 3 [1,2] zDm (hX) rfl rfl rfl rfl (SArgs_all rfl) rfl rfl dC rfl rfl rfl rfl rfl rfl rfl (fun y0 hy0=>⟨rfl,rfl,rfl,zA1 hy0.1 rfl hy0.2⟩) (fun y hy=>?_))|refine ayA rfl ?_
 all_goals refine Stop.go ?_
 refine zDJ (s:=[(6,.ptr 0 0),(9,.ptr 1 0),(10,.d (.ifc ty (payV y v)))]) (h:=[.box [.d (i64 0),.nil,.d (i64 0),.nil,.d (i64 0)],.box [.d (zAu R.L),.d (dts R.T),.d (i64 (R.fuel:Int)),.d (i64 (s.steps:Int)),.buf 2 s.out.length,.d (i64 s.fin),.d (i64 s.raised)],.buf true 9 1 (s.out.map str)]) (zAV (Le_all rfl) (zAT rfl rfl (zAT rfl rfl (zAT rfl rfl zAW))) rfl rfl) ?_
 refine zHn 2 (mu:=true) rfl rfl ?_
 refine zEm 1 4 (d:=.slice (s.out.map str)) rfl rfl (zHD rfl (qAE _).symm) ?_
 by_cases hfin:s.fin=0
 ·rw[if_pos hfin]
  rcases qAF 4000 L'.length with hbig|hfit
  ·have hq:(L'.length:Int)>4000:=by omega
   rw[if_neg oM]
   skip
   repeat' first|(refine zBe (id:=8) [.y (.ptr 1 0),.y (.ptr 1 0),.y (.ptr 1 (0+5)),.y (.d (i64 s.fin)),.y (.ptr 1 0),.y (.ptr 1 0),.y (.ptr 1 (0+4)),.y (.d (.slice (s.out.map str))),.y (.ptr 1 0),.y (.ptr 1 0),.y (.ptr 1 (0+3)),.y (.d (i64 (s.steps:Int))),.y (.d (.agg [i64 s.fin,.slice [],i64 0,.slice (s.out.map str),i64 (s.steps:Int)])),.mk ⟨11,[.int .i64 0,.slice none 0 0,.int .i64 0,.slice none 0 0,.int .i64 0],29,[.d (i64 s.fin),.d (.slice []),.d (i64 0),.d (.slice (s.out.map str)),.d (i64 (s.steps:Int))]⟩ (some 14),.st 13 ⟨11,[.int .i64 0,.slice none 0 0,.int .i64 0,.slice none 0 0,.int .i64 0],29,[.d (i64 s.fin),.d (.slice []),.d (i64 0),.d (.slice (s.out.map str)),.d (i64 (s.steps:Int))]⟩] kR kR (.inl rfl) pAF ?_)|(refine zP0 (id:=17) ?_)|apply en_n|apply zAE|apply zAA|apply zAD|apply w0|(refine zQG [] ?_ hmet hbv (hS y) (SArgs_all rfl) rfl rfl dC rfl rfl rfl rfl rfl rfl ?_;exact rfl)|refine ayA rfl ?_|refine ayQ rfl ?_|apply ay (hd:=rfl)|(refine w0' ?_)|refine aStA ?_|refine zAJ rfl ?_|apply zAH|apply eb_n
   all_goals first|omega|skip
   refine Stop.go ?_
   skip
   repeat' first|apply en_n|apply zAE|apply zAA|apply zAD|apply w0|(refine zAv ?_)|(refine zBI ?_)|(refine RV_c rfl rfl zBs rfl rfl ?_ ?_)|(refine RV_d rfl ?_ ?_)|exact zBg|exact zAY rfl zBs rfl rfl rfl|(apply zAq;exact rfl;exact rfl;exact rfl;exact zBs;exact rfl;exact rfl;exact rfl;exact rfl)|apply ay (hd:=rfl)|exact zAB rfl|(refine w0' ?_)|apply zAN
   all_goals rfl
  ·have hq:¬(L'.length:Int)>4000:=by omega
   rw[if_pos hfit]
   skip
   repeat' first|(refine zBe (id:=8) [.y (.ptr 1 0),.y (.ptr 1 0),.y (.ptr 1 (0+5)),.y (.d (i64 s.fin)),.y (.ptr 1 0),.y (.ptr 1 0),.y (.ptr 1 (0+4)),.y (.d (.slice (s.out.map str))),.y (.ptr 1 0),.y (.ptr 1 0),.y (.ptr 1 (0+3)),.y (.d (i64 (s.steps:Int))),.y (.d (.agg [i64 s.fin,.slice [],i64 0,.slice (s.out.map str),i64 (s.steps:Int)])),.mk ⟨11,[.int .i64 0,.slice none 0 0,.int .i64 0,.slice none 0 0,.int .i64 0],29,[.d (i64 s.fin),.d (.slice []),.d (i64 0),.d (.slice (s.out.map str)),.d (i64 (s.steps:Int))]⟩ (some 14),.st 13 ⟨11,[.int .i64 0,.slice none 0 0,.int .i64 0,.slice none 0 0,.int .i64 0],29,[.d (i64 s.fin),.d (.slice []),.d (i64 0),.d (.slice (s.out.map str)),.d (i64 (s.steps:Int))]⟩] kR kR (.inl rfl) pAF ?_)|(refine zP0 (id:=17) ?_)|apply en_n|apply zAE|apply zAA|apply zAD|apply w0|(refine zQG [] ?_ hmet hbv (hS y) (SArgs_all rfl) rfl rfl dC rfl rfl rfl rfl rfl rfl ?_;exact rfl)|refine ayA rfl ?_|refine ayQ rfl ?_|apply ay (hd:=rfl)|(refine w0' ?_)|refine aStA ?_|refine zAJ rfl ?_|refine zAK rfl ?_|apply zAH|apply zAM|apply eb_n
   all_goals first|omega|skip
   refine Stop.go ?_
   refine zHn 4 (mu:=true) rfl rfl ?_
   refine zEm 3 1 (d:=.slice (L'.map snD)) rfl rfl (zHD rfl (qAE _).symm) ?_
   skip
   repeat' first|apply en_n|apply zAE|apply zAA|apply zAD|apply w0|(refine zAv ?_)|(refine zBI ?_)|(refine RV_c rfl rfl zBs rfl rfl ?_ ?_)|(refine RV_d rfl ?_ ?_)|exact zBg|exact zAY rfl zBs rfl rfl rfl|(apply zAq;exact rfl;exact rfl;exact rfl;exact zBs;exact rfl;exact rfl;exact rfl;exact rfl)|apply ay (hd:=rfl)|exact zAB rfl|(refine w0' ?_)|apply zAN
   all_goals rfl
 ·rw[if_neg hfin]
  by_cases hf2:s.fin=2
  ·rw[if_pos hf2]
   skip
   repeat' first|(refine zBe (id:=8) [.y (.ptr 1 0),.y (.ptr 1 0),.y (.ptr 1 (0+5)),.y (.d (i64 s.fin)),.y (.ptr 1 0),.y (.ptr 1 0),.y (.ptr 1 (0+4)),.y (.d (.slice (s.out.map str))),.y (.ptr 1 0),.y (.ptr 1 0),.y (.ptr 1 (0+3)),.y (.d (i64 (s.steps:Int))),.y (.d (.agg [i64 s.fin,.slice [],i64 0,.slice (s.out.map str),i64 (s.steps:Int)])),.mk ⟨11,[.int .i64 0,.slice none 0 0,.int .i64 0,.slice none 0 0,.int .i64 0],29,[.d (i64 s.fin),.d (.slice []),.d (i64 0),.d (.slice (s.out.map str)),.d (i64 (s.steps:Int))]⟩ (some 14),.st 13 ⟨11,[.int .i64 0,.slice none 0 0,.int .i64 0,.slice none 0 0,.int .i64 0],29,[.d (i64 s.fin),.d (.slice []),.d (i64 0),.d (.slice (s.out.map str)),.d (i64 (s.steps:Int))]⟩] kR kR (.inl rfl) pAF ?_)|(refine zP0 (id:=17) ?_)|apply en_n|apply zAE|apply zAA|apply zAD|apply w0|refine ayA rfl ?_|refine ayQ rfl ?_|apply ay (hd:=rfl)|(refine w0' ?_)|refine aStA ?_|refine zAJ rfl ?_|refine zAK rfl ?_|apply zAH|apply eb_n
   all_goals first|omega|skip
   refine Stop.go ?_
   skip
   repeat' first|apply en_n|apply zAE|apply zAA|apply zAD|apply w0|(refine zAv ?_)|(refine zBI ?_)|(refine RV_c rfl rfl zBs rfl rfl ?_ ?_)|(refine RV_d rfl ?_ ?_)|exact zBg|exact zAY rfl zBs rfl rfl rfl|(apply zAq;exact rfl;exact rfl;exact rfl;exact zBs;exact rfl;exact rfl;exact rfl;exact rfl)|apply ay (hd:=rfl)|exact zAB rfl|(refine w0' ?_)|apply zAN
   all_goals rfl
  ·rw[if_neg hf2]
   skip
   repeat' first|(refine zBe (id:=8) [.y (.ptr 1 0),.y (.ptr 1 0),.y (.ptr 1 (0+5)),.y (.d (i64 s.fin)),.y (.ptr 1 0),.y (.ptr 1 0),.y (.ptr 1 (0+4)),.y (.d (.slice (s.out.map str))),.y (.ptr 1 0),.y (.ptr 1 0),.y (.ptr 1 (0+3)),.y (.d (i64 (s.steps:Int))),.y (.d (.agg [i64 s.fin,.slice [],i64 0,.slice (s.out.map str),i64 (s.steps:Int)])),.mk ⟨11,[.int .i64 0,.slice none 0 0,.int .i64 0,.slice none 0 0,.int .i64 0],29,[.d (i64 s.fin),.d (.slice []),.d (i64 0),.d (.slice (s.out.map str)),.d (i64 (s.steps:Int))]⟩ (some 14),.st 13 ⟨11,[.int .i64 0,.slice none 0 0,.int .i64 0,.slice none 0 0,.int .i64 0],29,[.d (i64 s.fin),.d (.slice []),.d (i64 0),.d (.slice (s.out.map str)),.d (i64 (s.steps:Int))]⟩] kR kR (.inl rfl) pAF ?_)|(refine zP0 (id:=17) ?_)|apply en_n|apply zAE|apply zAA|apply zAD|apply w0|refine ayA rfl ?_|refine ayQ rfl ?_|apply ay (hd:=rfl)|refine zAK rfl ?_|apply zAH|apply zAM|apply eb_n
   all_goals first|omega|skip
   refine Stop.go ?_
   skip
   repeat' first|apply en_n|apply zAE|apply zAA|apply zAD|apply w0|(refine zAv ?_)|(refine zBI ?_)|(refine RV_c rfl rfl zBs rfl rfl ?_ ?_)|(refine RV_d rfl ?_ ?_)|exact zBg|exact zAY rfl zBs rfl rfl rfl|(apply zAq;exact rfl;exact rfl;exact rfl;exact zBs;exact rfl;exact rfl;exact rfl;exact rfl)|apply ay (hd:=rfl)|exact zAB rfl|(refine w0' ?_)|apply zAN
   all_goals rfl
end Go.Proofs.YtjcgiiedaccjpaaGreatDoor
namespace Go.Proofs.YtjcgiiedaccjpaaGreatDoor
open _root_.Go.Proofs.Tryz
open Go.Sx Go.Ev
theorem zaM: zAQ prog 15=true:=by kernel_rfl
def toNd(n:Nn): Nd:=⟨n.kind,n.text,n.num,n.kids⟩
theorem zLj(l:List Nn): (D.slice (l.map snD))=zAu (l.map toNd):=by
 unfold zAu;rw[qBo];rfl
theorem zWf{a b:List Nn}: a.map toNd=b.map toNd↔a=b:=by
 refine⟨fun h=>?_,fun h=>by rw[h]⟩
 refine List.map_inj_right (f:=toNd) (fun x y e=>?_) |>.1 h
 cases x;cases y;simp[toNd]at e;simp[e]
def fewE(l:List Dt)(e:List Nd)(fuel:Int): Bool:=(e.take 61).all eokN&&(fewD l&&decide (l.length<=10)&&decide (e.length<=60)&&decide (fuel<=2000))
attribute [local irreducible] zAQ Program.underlying Ylds zBJ alex zBk zBZ awp zAX FCall zBo zBR zBX zEg zBb zBD zBd zBj zBn zBu zEL zBP VCall
theorem zVb(A B:List (List UInt8))(hL:A.length<=2000000): zAX prog 15 [.slice (A.map str),.slice (B.map str)] (bl (decide (A=B))):=by
 refine zAc func15 rfl ntmps15 results15 rfl ?_
 intro wb St0
 repeat' first|apply en_n|apply zAE|apply zAA|apply zAD|apply w0|refine ayA rfl ?_|apply ay (hd:=rfl)|exact zEp rfl rfl|(apply zA3;exact rfl;all_goals intro hb)|apply zAH|apply zAM|apply zAN|apply en_r|apply zAO|refine res1 rfl ?_
 ·have:A≠B:=fun e=>by subst e;omega
  rw[decide_eq_false this]
 ·have hlen:A.length=B.length:=by omega
  refine zAt (α:=Nat) (fun i=>i<=A.length/\A.take i=B.take i) (fun i=>[(0,.d (.slice (A.map str))),(1,.d (.slice (B.map str))),(5,.d (i64 (i:Int)))]) (fun _=>[]) (fun i=>A.length-i) 0 ⟨qAO _,rfl⟩
   (zAV (Le_all rfl) zAW rfl rfl) ?_
  rintro i ⟨hi1,hi2⟩
  repeat' first|apply en_n|apply zAE|apply zAA|apply zAD|apply w0|exact zFL rfl rfl|(apply aI (hd:=rfl);(first|exact zAr rfl|exact Co_bb rfl rfl rfl|exact Co_nn rfl);exact rfl;(with_reducible first|exact zA6|exact zA6);exact fun _=>rfl;rotate_left;intro v hv;rotate_right)|refine ayA rfl ?_|apply ay (hd:=rfl)|exact zCt rfl rfl|refine zBN rfl rfl ?_|(apply zA3;exact rfl;all_goals intro hb)|apply zAH|apply zAM|apply zAN|apply zAz|refine awDA ?_|apply en_r|apply en_e|apply eb_n|apply eb_r|apply eb_e|apply zAO|refine res1 rfl ?_
  ·omega
  ·omega
  ·rename_i b1 b2 u hu
   have:A≠B:=by rintro rfl;rw[hu]at hv;exact hb (qBR hv)
   rw[decide_eq_false this]
  ·omega
  ·rename_i b1 b2 u hu
   obtain rfl:u=v:=Decidable.not_not.1 hb
   exact⟨i+1,⟨by omega,zJb (i:=i) hi2 hu hv⟩,by omega,zAV (Le_all rfl) zAW rfl rfl⟩
  ·have h1:=hi2
   rw[show i=A.length by omega,qBF,hlen,qBF]at h1
   rw[decide_eq_true h1]
theorem zVc(A B:List Nn)(hL:A.length<=2000000): zAX prog 32 [.slice (A.map snD),.slice (B.map snD)] (bl (decide (A=B))):=by
 rw[zLj,zLj]
 have:=za1 (A.map toNd) (B.map toNd) (by rw[qAE];exact hL)
 rwa [decide_eq_decide.2 zWf]at this
theorem zSs(b2 b6:Bool)(a b:Sn)(h2:zAX prog 32 [.slice (a.vals.map snD),.slice (b.vals.map snD)] (bl b2))(h6:zAX prog 15 [.slice (a.out.map str),.slice (b.out.map str)] (bl b6)):
  zAX prog 13 [snS a,snS b] (bl (decide (a.fin=b.fin)&&b2&&decide (a.num=b.num)&&b6)):=by
 refine zAc func13 rfl ntmps13 results13 rfl ?_
 intro wb St0
 unfold snS
 cases b2 <;> cases b6
 all_goals
  repeat' first|apply en_n|apply zAE|apply zAA|apply zAD|apply w0|refine k1u (hd:=rfl) rfl rfl ?_|exact ycA zaI h2|exact ycA zaM h6|refine aBoA ?_|refine ayA rfl ?_|apply ay (hd:=rfl)|exact zDz rfl rfl|refine w1 rfl rfl ?_|(apply gD;exact rfl;exact rfl;all_goals intro hb)|apply zAN|apply zAO|refine res1 rfl ?_
  all_goals (apply zCX;simp_all)
theorem zJT(a b:Sn)(hA:a.vals.length<=2000000)(hO:a.out.length<=2000000):
  zAX prog 13 [snS a,snS b] (bl (decide (a.fin=b.fin)&&decide (a.vals=b.vals)&&decide (a.num=b.num)&&decide (a.out=b.out))) :=
 zSs _ _ _ _ (zVc a.vals b.vals hA) (zVb a.out b.out hO)
theorem zX2(l:List Dt)(hL:l.length<=1000000): zAX prog 9 [dts l] (dts l):=by
 refine zAc func9 rfl ntmps9 results9 rfl ?_
 intro wb St0
 repeat' first|apply en_n|apply zAE|apply zAA|apply zAD|apply w0|(apply zNO (hd:=rfl) (hro:=rfl);(with_reducible exact zRZ);(with_reducible exact zCN);(with_reducible exact zae);exact rfl)|(apply aApp (hd:=rfl) (hro:=rfl);exact rfl;exact rfl;(first|exact zAr rfl|exact Co_bb rfl rfl rfl|exact Co_nn rfl);(first|exact rfl|(simp;done));exact rfl;(with_reducible exact zRZ);(with_reducible exact zCN);(with_reducible exact zag);(with_reducible exact zai);(first|exact zCe (fun _=>rfl)|exact zDP rfl))|refine ayA rfl ?_|apply zAN|apply zAO
 all_goals first|(simp only[qAE];omega)|skip
 exact⟨_,_,_,rfl,by simp,by rw[qAe sI];rfl⟩
theorem zaP(l:List Dt)(e:List Nd)(fuel:Int): zAX prog 7 [dts l,zAu e,i64 fuel] (bl (fewE l e fuel)):=by
 have hF:=zaQ l
 refine zAc func7 rfl ntmps7 results7 rfl ?_
 intro wb St0
 unfold fewE
 generalize fewD l=F at *
 repeat' first|apply en_n|apply zAE|apply zAA|apply zAD|apply w0|refine ayA rfl ?_|apply zAH
 have hl61:(e.take 61).length=min 61 e.length:=qAU
 refine zAt (α:=Nat) (fun m=>m<=(e.take 61).length/\(e.take 61).all eokN=((e.take 61).drop m).all eokN) (fun m=>[(0,.d (dts l)),(1,.d (zAu e)),(2,.d (i64 fuel)),(7,.d (i64 (m:Int)))]) (fun _=>[]) (fun m=>(e.take 61).length-m) 0 ⟨qAO _,rfl⟩
  (zAV (Le_all rfl) zAW rfl rfl) ?_
 rintro m ⟨hm1,hm2⟩
 rcases qAF m (e.take 61).length with hml|hmge
 ·obtain⟨n,hn⟩:∃n,e[m]?=some n:=⟨_,qAB oM⟩
  have hn0:e[((m:Nat):Int).toNat]?=some n:=by rw[qAT];exact hn
  have hml1:(m:Int)<(e.length:Int):=by omega
  have hml2:(m:Int)<61:=by omega
  rw[zOt (zOm hn oM)]at hm2
  by_cases c5:n.text.length<=60
  ·have d5:¬(n.text.length:Int)>60:=by omega
   rw[show eokN n=true from decide_eq_true c5,qA5]at hm2
   skip
   repeat' first|apply en_n|apply zAE|apply zAA|apply zAD|apply w0|(apply zDK;exact rfl;with_reducible exact ustr)|refine aJA ?_|refine ayA rfl ?_|refine ayQ rfl ?_|apply ay (hd:=rfl)|refine zBN rfl rfl ?_|refine w1 rfl rfl ?_|refine zAJ rfl ?_|refine zAK rfl ?_|apply zAH|apply zAM|apply eb_n
   all_goals first|omega|skip
   exact⟨m+1,⟨by omega,hm2⟩,by omega,zAV (Le_all rfl) zAW rfl rfl⟩
  ·have d5:(n.text.length:Int)>60:=by omega
   rw[hm2,show eokN n=false from decide_eq_false c5,qBU,qBU]
   clear hm2
   skip
   repeat' first|apply en_n|apply zAE|apply zAA|apply zAD|apply w0|exact zA9 rfl rfl|exact zDk rfl rfl|(apply zDK;exact rfl;with_reducible exact ustr)|(apply aJ (hd:=rfl);(first|exact zAr rfl|exact Co_bb rfl rfl rfl|exact Co_nn rfl);exact rfl;(with_reducible exact zAe);assumption;omega;exact fun _=>rfl)|apply ay (hd:=rfl)|exact zAC rfl|exact zAB rfl|exact zAs rfl fn_1|exact zAR rfl zAf|exact zAg rfl zA5|exact zAj rfl rfl|refine w1 rfl rfl ?_|refine zAJ rfl ?_|apply zAH|apply zAM|apply zAN|apply en_r|apply eb_r|apply zAO|refine res1 rfl ?_
   all_goals first|omega|rfl
 ·rw[qAa hmge,List.all_nil]at hm2
  rw[hm2,qA5]
  clear hm2
  have hout:¬(m:Int)<61\/¬(m:Int)<(e.length:Int):=by omega
  cases F <;> rcases hout with ho|ho
  all_goals
   repeat' first|apply en_n|apply zAE|apply zAA|apply zAD|apply w0|refine k1u (hd:=rfl) rfl rfl ?_|exact ycA zaN hF|refine ayA rfl ?_|refine ayQ rfl ?_|apply ay (hd:=rfl)|exact zCt rfl rfl|exact zI3 rfl rfl|refine w1 rfl rfl ?_|(apply gD;exact rfl;exact rfl;all_goals intro hb)|refine zAK rfl ?_|apply zAN|apply zAz|apply en_e|apply eb_e|apply zAO|refine res1 rfl ?_
   all_goals first|omega|(apply zCX;first|(simp_all;done)|(simp_all;intros;omega))
end Go.Proofs.YtjcgiiedaccjpaaGreatDoor
namespace Go.Proofs.YtjcgiiedaccjpaaGreatDoor
open _root_.Go.Proofs.Tryz
open Go.Sx Go.Ev
theorem zEk: zGR prog 85=some (9,65):=by kernel_rfl
theorem zFy: prog.underlying 9=some .string:=by kernel_rfl
theorem zNA: zKH prog 65=some (.slice []):=by kernel_rfl
def earr: List UInt8:=[45,62]
def ehdA: Nd:=⟨32,earr,0,2⟩
def zNI(A:List (List Nd))(i:Nat): List Nd:=(A.take i).flatMap fun a=>ehdA::a
theorem zSr{A:List (List Nd)}{i:Nat}{a:List Nd}(h:A[i]?=some a): zNI A (i+1)=zNI A i++[ehdA]++a:=by
 unfold zNI;rw[qAu,h];simp
def zIE(A:List (List Nd))(b:List Nd): List Nd:=zNI A A.length++b
def bI: List Nd:=[⟨32,[105,110,116],0,0⟩]
def bT: List Nd:=[⟨32,[116,101,120,116],0,0⟩]
def bV: List Nd:=[⟨31,[],0,0⟩]
def bR: List Nd:=[⟨32,refT,0,1⟩,⟨31,[],0,0⟩]
def bRow: Nat->List (List Nd)×List Nd
 |7=>([bT,bT],bT)
 |8=>([bT],bI)
 |9=>([bV],bR)
 |10=>([bR],bV)
 |11=>([bR,bV],bI)
 |12=>([bI],bI)
 |13=>([bT],bI)
 |_=>([bI,bI],bI)
def sigD(p:Nat): D:=.agg [str (zCS p),zAu (zIE (bRow p).1 (bRow p).2)]
def bMap: List (List UInt8×D):=[(catT,zC0 [bT,bT,bT]),(lenT,zC0 [bT,bI]),(refT,zC0 [bV,bR]),(getT,zC0 [bR,bV]),(setT,zC0 [bR,bV,bI]),(putT,zC0 [bI,bI]),(sayT,zC0 [bT,bI])]
theorem zX9: ∀i,i<14->(zES bMap (zCS i)=none/\bRow i=([bI,bI],bI))\/(∃a b c,zES bMap (zCS i)=some (zC0 [a,b,c])/\bRow i=([a,b],c)/\a.length<=2/\b.length<=2/\c.length<=2)\/(∃a c,zES bMap (zCS i)=some (zC0 [a,c])/\bRow i=([a],c)/\a.length<=2/\c.length<=2)
 |0,_=>.inl ⟨rfl,rfl⟩|1,_=>.inl ⟨rfl,rfl⟩|2,_=>.inl ⟨rfl,rfl⟩|3,_=>.inl ⟨rfl,rfl⟩|4,_=>.inl ⟨rfl,rfl⟩|5,_=>.inl ⟨rfl,rfl⟩|6,_=>.inl ⟨rfl,rfl⟩
 |7,_=>.inr (.inl ⟨_,_,_,rfl,rfl,by decide,by decide,by decide⟩)
 |8,_=>.inr (.inr ⟨_,_,rfl,rfl,by decide,by decide⟩)
 |9,_=>.inr (.inr ⟨_,_,rfl,rfl,by decide,by decide⟩)
 |10,_=>.inr (.inr ⟨_,_,rfl,rfl,by decide,by decide⟩)
 |11,_=>.inr (.inl ⟨_,_,_,rfl,rfl,by decide,by decide,by decide⟩)
 |12,_=>.inr (.inr ⟨_,_,rfl,rfl,by decide,by decide⟩)
 |13,_=>.inr (.inr ⟨_,_,rfl,rfl,by decide,by decide⟩)
 |i+14,h=>absurd h oM
theorem zJY{P:Program}{η:List Ob}{σ:Sl}{dst:Option Nat}{ty:TypeId}{pos:String}{after:Array Edge}{gd:Option (Nat×Bool)}{t:TypeId}{x y:Operand}{id k e:Nat}{kb:Option Nat}{L:List (List UInt8×D)}{a:List UInt8}{zd:D}{r:Option D}(hl:zES L a=r)(hx:oval σ x=.mp id)(ho:η[id]?=some (.map kb (kvs (fun l=>.string ⟨l.toArray⟩) L)))(hy:oval σ y=.d (str a))(ht:zGR P t=some (k,e))(hk:P.underlying k=some .string)(hz:zKH P e=some zd):
  Ylds P η σ ⟨dst,.lookup t x y true,ty,pos,after,gd⟩ (.d (.tup [r.getD zd,.val (.bool r.isSome)])):=by
 subst hl;exact zWI hx ho hy ht hk hz
attribute [local irreducible] zAQ Program.underlying Ylds zBJ alex zBk zBZ awp zAX FCall zBo zBR zBX zEg zBb zBD zBd zBj zBn zBu zEL zBP VCall
theorem zOv(s:List UInt8): zAX prog 35 [str s] (zAu [⟨32,s,0,0⟩]):=by
 refine zAc func35 rfl ntmps35 results35 rfl ?_
 intro wb St0
 repeat' first|apply en_n|apply zAE|apply zAA|apply zAD|apply w0|exact zAo zDh zA2 (PD_d rfl rfl (PD_d rfl rfl zBE)) rfl|refine ayA rfl ?_|refine ayL rfl ?_|apply ay (hd:=rfl)|apply zAN|apply zAO|refine res1 rfl ?_
 rfl
theorem zOw(A:List (List Nd))(b:List Nd)(hA:∀i,(zNI A i).length<=1000000)(hA2:∀a∈A,a.length<=1000000)(hAl:A.length<=1000000)(hb:b.length<=1000000): zAX prog 37 [zC0 A,zAu b] (zAu (zIE A b)):=by
 refine zAc func37 rfl ntmps37 results37 rfl ?_
 intro wb St0
 repeat' first|apply en_n|apply zAE|apply zAA|apply zAD|apply w0|refine ayA rfl ?_|apply zAH
 refine zEd 5 false 47 4 rfl rfl ?_
 refine zAt (α:=Nat) (fun i=>i<=A.length) (fun i=>[(1,.d (zAu b)),(5,.buf 0 ((zNI A i).map Nd.av).length),(8,.d (zC0 A)),(9,.d (i64 (A.length:Int))),(10,.d (i64 (i:Int)))]) (fun i=>[.buf false 47 4 ((zNI A i).map Nd.av)]) (fun i=>A.length-i) 0 (qAO _)
  (zAV (Le_cons rfl (zCR rfl rfl (Le_cons rfl (Le_d rfl rfl (Le_all rfl))))) (zBa rfl rfl rfl zAW) rfl rfl) ?_
 intro i hi
 have hbd:=hA i
 repeat' first|apply en_n|apply zAE|apply zAA|apply zAD|apply w0|refine aApA (id:=0) ?_ ?_|(apply zAo (cs:=Nd.cells ehdA);exact zDh;exact zA2;exact PD_d rfl rfl (PD_d rfl rfl (PD_d rfl rfl zBE));exact rfl)|(apply aI (hd:=rfl);(first|exact zAr rfl|exact Co_bb rfl rfl rfl|exact Co_nn rfl);exact rfl;(with_reducible exact zB7);exact fun _=>rfl;rotate_left;intro v hv;rotate_right)|refine ayA rfl ?_|refine ayL rfl ?_|apply ay (hd:=rfl)|exact zCt rfl rfl|refine zBN rfl rfl ?_|(apply zA3;exact rfl;all_goals intro hb)|apply zAH|apply zAM|apply zAN|apply zAz|apply en_e|apply eb_n|apply eb_e|apply zAO
 all_goals first|omega|skip
 ·simp only[qAE,qAK,qAb];omega
 ·have:=hA2 v (qAC hv)
  simp only[qAE,qAK,qAb];omega
 ·have e:=zSr (show A[i]?=some v from hv)
  exact⟨i+1,by omega,by omega,zAV (Le_cons rfl (zCR rfl (by rw[e];simp;omega) (Le_all rfl))) (zBa rfl rfl (by rw[e,qAZ,qAZ];rfl) zAW) rfl rfl⟩
 ·simp only[qAE];omega
 ·have:A.length=i:=by omega
  exact⟨_,_,_,rfl,by simp,by rw[qAe sI];simp[zAu,zIE,this]⟩
theorem zVf(a b c:List Nd)(h:a.length<=2/\b.length<=2/\c.length<=2): zAX prog 37 [zC0 [a,b],zAu c] (zAu (zIE [a,b] c)) :=
 zOw [a,b] c (fun i=>by unfold zNI;match i with|0=>simp|1=>simp;omega|i+2=>simp;omega) pAJ sI oM
theorem zak(a c:List Nd)(h:a.length<=2/\c.length<=2): zAX prog 37 [zC0 [a],zAu c] (zAu (zIE [a] c)) :=
 zOw [a] c (fun i=>by unfold zNI;match i with|0=>simp|i+1=>simp;omega) pAJ sI oM
end Go.Proofs.YtjcgiiedaccjpaaGreatDoor
namespace Go.Proofs.YtjcgiiedaccjpaaGreatDoor
open _root_.Go.Proofs.Tryz
open Go.Sx Go.Ev
theorem aIns{C:Ctx}{ops:Array Oper}{rest:List Oper}{K:Sl->List Ob->Prop}{σ:Sl}{η:List Ob}{t:TypeId}{x y z:Operand}{ty:TypeId}{pos:String}{after:Array Edge}{gd:Option (Nat×Bool)}(h:zBJ C false ops ⟨none,.mapUpdate t x y z,ty,pos,after,gd⟩ rest K σ η): zBJ C false ops ⟨none,.insert t x y z,ty,pos,after,gd⟩ rest K σ η:=by
 intro Q hQ a w ha K' hK'
 have:=h Q hQ a w ha K' hK'
 unfold Oper.wp at this ⊢
 exact this
def zSB(n:Nat): D:=.slice ((List.range n).map sigD)
attribute [local irreducible] zAQ Program.underlying Ylds zBJ alex zBk zBZ awp zAX FCall zBo zBR zBX zEg zBb zBD zBd zBj zBn zBu zEL zBP VCall
theorem zLU: zAX prog 16 [] (zSB 14):=by
 have hI:=zOv [105,110,116]
 have hT:=zOv [116,101,120,116]
 have hM:=zWO ⟨32,refT,0,0⟩ [bV] dC dC
 have hB:=zLL
 replace hM:zAX prog 21 [.agg [i64 32,str refT,i64 0,i64 0],zC0 [bV]] (zAu bR):=hM
 refine zAc func16 rfl ntmps16 results16 rfl ?_
 intro wb St0
 repeat' first|apply en_n|apply zAE|apply zAA|apply zAD|apply w0|exact ycA zRI hI|exact ycA zRI hT|exact ycA zUq hM|(refine zAP zH9 hB zAF)|(refine zAo (cs:=[i64 31,str [],i64 0,i64 0]) zDh zA2 (PD_d rfl rfl zBE) rfl)|(refine zAo (cs:=[i64 32,str refT,i64 0,i64 0]) zDh zA2 (PD_d rfl rfl (PD_d rfl rfl zBE)) rfl)|refine zWD (hd:=rfl) (hro:=rfl) zEk zFy ?_|exact zI2 rfl|exact zQK rfl|(refine aIns ?_;refine zIF (enc:=fun l:List UInt8=>Value.string ⟨l.toArray⟩) (a:=catT) rfl rfl rfl (zAr rfl) zEk (zHH zFy) rfl ?_)|(refine aIns ?_;refine zIF (enc:=fun l:List UInt8=>Value.string ⟨l.toArray⟩) (a:=lenT) rfl rfl rfl (zAr rfl) zEk (zHH zFy) rfl ?_)|(refine aIns ?_;refine zIF (enc:=fun l:List UInt8=>Value.string ⟨l.toArray⟩) (a:=refT) rfl rfl rfl (zAr rfl) zEk (zHH zFy) rfl ?_)|(refine aIns ?_;refine zIF (enc:=fun l:List UInt8=>Value.string ⟨l.toArray⟩) (a:=getT) rfl rfl rfl (zAr rfl) zEk (zHH zFy) rfl ?_)|(refine aIns ?_;refine zIF (enc:=fun l:List UInt8=>Value.string ⟨l.toArray⟩) (a:=setT) rfl rfl rfl (zAr rfl) zEk (zHH zFy) rfl ?_)|(refine aIns ?_;refine zIF (enc:=fun l:List UInt8=>Value.string ⟨l.toArray⟩) (a:=putT) rfl rfl rfl (zAr rfl) zEk (zHH zFy) rfl ?_)|(refine aIns ?_;refine zIF (enc:=fun l:List UInt8=>Value.string ⟨l.toArray⟩) (a:=sayT) rfl rfl rfl (zAr rfl) zEk (zHH zFy) rfl ?_)|refine ayA rfl ?_|refine ayL rfl ?_|apply ay (hd:=rfl)|(apply zWK;(with_reducible exact zE3);(with_reducible exact zB7);(with_reducible exact zHS);exact rfl;exact rfl;(first|exact zAL rfl (zAL rfl zAF)|exact zEH rfl rfl rfl (zEH rfl rfl rfl zAF));exact rfl)|(apply zY9;(with_reducible exact zE3);(with_reducible exact zB7);(with_reducible exact zHS);exact rfl;exact rfl;(exact zAL rfl (zAL rfl (zAL rfl zAF)));exact rfl)|(refine w0' ?_)|apply zAH
 refine zEd 6 false 45 2 rfl rfl ?_
 refine zAt (α:=Nat) (fun i=>i<=14) (fun i=>[(1,.d (zAu bI)),(5,.mp 0),(6,.buf 1 ((List.range i).map sigD).length),(44,.d bisD),(45,.d (i64 14)),(46,.d (i64 (i:Int)))]) (fun i=>[.map none (kvs (fun l:List UInt8=>Value.string ⟨l.toArray⟩) bMap),.buf false 45 2 ((List.range i).map sigD)]) (fun i=>14-i) 0 (qAO _)
  (zAV (Le_cons rfl (Le_cons rfl (zCR rfl rfl (Le_all rfl)))) (zAT rfl rfl (zBa rfl rfl rfl zAW)) rfl rfl) ?_
 intro i hi
 rcases qAF i 14 with hlt|hge
 ·have hlt':(i:Int)<14:=by omega
  have hv:(List.range 14)[(i:Int).toNat]?=some i:=by rw[qAT,List.getElem?_range hlt]
  have hsucc:(List.range (i+1)).map sigD=(List.range i).map sigD++[sigD i]:=by rw[List.range_succ,qAZ];rfl
  have hlen:((List.range i).map sigD).length=i:=by rw[qAE,qA6]
  unfold sigD at hsucc
  change (List.range (i+1)).map sigD=(List.range i).map sigD++_ at hsucc
  rcases zX9 i hlt with⟨h1,h2⟩|⟨a,b,c,h1,h2,h3,h4,h5⟩|⟨a,c,h1,h2,h3,h5⟩
  ·have hA:=zVf bI bI bI dC
   rw[h2]at hsucc
   dsimp only at hsucc
   clear h2
   generalize zIE [bI,bI] bI=r at *
   generalize bI=q at *
   generalize pdo i=pd at *
   unfold zC0 at *
   skip
   repeat' first|(refine ay (hd:=rfl) (zBG rfl rfl zB7 (by simp only[qAK,qAb];omega) rfl rfl (by decide)) ?_)|apply en_n|apply zAE|apply zAA|apply zAD|apply w0|exact zA9 rfl rfl|(refine zEN (by kernel_rfl) ?_;apply aApp (id:=1) (hd:=rfl) (hro:=rfl);exact rfl;exact rfl;(first|exact zAr rfl|exact Co_bb rfl rfl rfl|exact Co_nn rfl);(first|exact rfl|exact(by simp));exact rfl;(with_reducible exact zGg);(with_reducible exact zHj);(with_reducible exact zM9);(with_reducible exact zND);(first|exact zCe (fun _=>rfl)|exact zDP rfl))|(refine zPH (L:=[q,q,q]) (enc:=zAu) (zAr rfl) zB7 rfl (fun _=>rfl) (by simp only[qAK,qAb];omega))|exact zJY h1 rfl rfl rfl zEk zFy zNA|exact zI2 rfl|(refine zAP zMy hA (CoLA rfl))|(refine zAo (cs:=[str (zCS i),zAu r]) zNB zM8 (PD_d rfl rfl (PD_d rfl rfl zBE)) rfl)|(apply aJ (hd:=rfl);(first|exact zAr rfl|exact Co_bb rfl rfl rfl|exact Co_nn rfl);exact rfl;(with_reducible exact zHk);assumption;omega;exact fun _=>rfl)|(apply zA4 (hd:=rfl) (hro:=rfl);(with_reducible exact zDU))|apply ay (hd:=rfl)|exact zAC rfl|exact zAB rfl|exact zAR rfl zAx|exact zAl rfl zDO rfl|exact zCo rfl zCL|refine zBN rfl rfl ?_|refine zI1 rfl rfl ?_|exact zBY rfl|exact zAb rfl rfl|exact zBB rfl|exact zAp rfl|exact zAI rfl zHh|exact zAG rfl zAf rfl rfl|(apply zCI;(with_reducible exact zGg);(with_reducible exact zHj);(with_reducible exact zM7);exact rfl;exact rfl;(first|exact zAL rfl zAF|exact zEH rfl rfl rfl zAF|exact zEo rfl zAF);exact rfl)|(apply zY9;(with_reducible exact zE3);(with_reducible exact zB7);(with_reducible exact zHS);exact rfl;exact rfl;(exact zAL rfl (zAL rfl (zAL rfl zAF)));exact rfl)|(refine w0' ?_)|(apply zAq;exact rfl;exact rfl;exact rfl;(with_reducible exact zDO);exact rfl;exact rfl;exact rfl;exact rfl)|refine zAJ rfl ?_|apply zAH|apply zAM|refine zAy (by kernel_rfl) (by kernel_rfl) ?_|apply eb_n
   all_goals first|omega|(simp only[qAE,qAK,qAb];omega)|skip
   ·simp only[hlen,qAK,qAb];omega
   ·exact⟨i+1,by omega,by omega,zAV (Le_cons rfl (Le_cons rfl (zCR rfl (by rw[hsucc];simp) (Le_all rfl)))) (zAT rfl rfl (zBa rfl rfl hsucc zAW)) rfl rfl⟩
  ·have hA:=zVf a b c ⟨h3,h4,h5⟩
   rw[h2]at hsucc
   dsimp only at hsucc
   clear h2
   generalize zIE [a,b] c=r at *
   unfold zC0 at *
   skip
   repeat' first|(refine ay (hd:=rfl) (zBG rfl rfl zB7 (by simp only[qAK,qAb];omega) rfl rfl (by decide)) ?_)|apply en_n|apply zAE|apply zAA|apply zAD|apply w0|exact zA9 rfl rfl|(refine zEN (by kernel_rfl) ?_;apply aApp (id:=1) (hd:=rfl) (hro:=rfl);exact rfl;exact rfl;(first|exact zAr rfl|exact Co_bb rfl rfl rfl|exact Co_nn rfl);(first|exact rfl|exact(by simp));exact rfl;(with_reducible exact zGg);(with_reducible exact zHj);(with_reducible exact zM9);(with_reducible exact zND);(first|exact zCe (fun _=>rfl)|exact zDP rfl))|exact zJY h1 rfl rfl rfl zEk zFy zNA|exact zI2 rfl|(refine zAP zMy hA (CoLA rfl))|(refine zAo (cs:=[str (zCS i),zAu r]) zNB zM8 (PD_d rfl rfl (PD_d rfl rfl zBE)) rfl)|(apply aJ (hd:=rfl);(first|exact zAr rfl|exact Co_bb rfl rfl rfl|exact Co_nn rfl);exact rfl;(with_reducible exact zHk);assumption;omega;exact fun _=>rfl)|(apply zA4 (hd:=rfl) (hro:=rfl);(with_reducible exact zDU))|apply ay (hd:=rfl)|exact zAC rfl|exact zAB rfl|exact zAR rfl zAx|exact zAl rfl zDO rfl|exact zAg rfl zCL|refine zBN rfl rfl ?_|refine zI1 rfl rfl ?_|exact zBY rfl|exact zAb rfl rfl|exact zBB rfl|exact zAp rfl|exact zAI rfl zHh|exact zAG rfl zAf rfl rfl|(apply zPH;(first|exact zAr rfl|exact Co_bb rfl rfl rfl|exact Co_nn rfl);(with_reducible exact zB7);exact rfl;exact fun _=>rfl)|(apply zCI;(with_reducible exact zGg);(with_reducible exact zHj);(with_reducible exact zM7);exact rfl;exact rfl;(first|exact zAL rfl zAF|exact zEH rfl rfl rfl zAF|exact zEo rfl zAF);exact rfl)|(refine w0' ?_)|(apply zAq;exact rfl;exact rfl;exact rfl;(with_reducible exact zDO);exact rfl;exact rfl;exact rfl;exact rfl)|refine zAJ rfl ?_|refine zAK rfl ?_|apply zAH|apply zAM|refine zAy (by kernel_rfl) (by kernel_rfl) ?_|apply eb_n
   all_goals first|omega|(simp only[qAE,qAK,qAb];omega)|skip
   ·simp only[hlen,qAK,qAb];omega
   ·exact⟨i+1,by omega,by omega,zAV (Le_cons rfl (Le_cons rfl (zCR rfl (by rw[hsucc];simp) (Le_all rfl)))) (zAT rfl rfl (zBa rfl rfl hsucc zAW)) rfl rfl⟩
  ·have hA:=zak a c ⟨h3,h5⟩
   rw[h2]at hsucc
   dsimp only at hsucc
   clear h2
   generalize zIE [a] c=r at *
   unfold zC0 at *
   skip
   repeat' first|(refine ay (hd:=rfl) (zBG rfl rfl zB7 (by simp only[qAK,qAb];omega) rfl rfl (by decide)) ?_)|apply en_n|apply zAE|apply zAA|apply zAD|apply w0|exact zA9 rfl rfl|(refine zEN (by kernel_rfl) ?_;apply aApp (id:=1) (hd:=rfl) (hro:=rfl);exact rfl;exact rfl;(first|exact zAr rfl|exact Co_bb rfl rfl rfl|exact Co_nn rfl);(first|exact rfl|exact(by simp));exact rfl;(with_reducible exact zGg);(with_reducible exact zHj);(with_reducible exact zM9);(with_reducible exact zND);(first|exact zCe (fun _=>rfl)|exact zDP rfl))|exact zJY h1 rfl rfl rfl zEk zFy zNA|exact zI2 rfl|(refine zAP zMy hA (CoLA rfl))|(refine zAo (cs:=[str (zCS i),zAu r]) zNB zM8 (PD_d rfl rfl (PD_d rfl rfl zBE)) rfl)|(apply aJ (hd:=rfl);(first|exact zAr rfl|exact Co_bb rfl rfl rfl|exact Co_nn rfl);exact rfl;(with_reducible exact zHk);assumption;omega;exact fun _=>rfl)|(apply zA4 (hd:=rfl) (hro:=rfl);(with_reducible exact zDU))|apply ay (hd:=rfl)|exact zAC rfl|exact zAB rfl|exact zAR rfl zAx|exact zAl rfl zDO rfl|exact zAg rfl zCL|refine zBN rfl rfl ?_|refine zI1 rfl rfl ?_|exact zBY rfl|exact zAb rfl rfl|exact zBB rfl|exact zAp rfl|exact zAI rfl zHh|exact zAG rfl zAf rfl rfl|(apply zPH;(first|exact zAr rfl|exact Co_bb rfl rfl rfl|exact Co_nn rfl);(with_reducible exact zB7);exact rfl;exact fun _=>rfl)|(apply zCI;(with_reducible exact zGg);(with_reducible exact zHj);(with_reducible exact zM7);exact rfl;exact rfl;(first|exact zAL rfl zAF|exact zEH rfl rfl rfl zAF|exact zEo rfl zAF);exact rfl)|(refine w0' ?_)|(apply zAq;exact rfl;exact rfl;exact rfl;(with_reducible exact zDO);exact rfl;exact rfl;exact rfl;exact rfl)|refine zAJ rfl ?_|refine zAK rfl ?_|apply zAH|apply zAM|refine zAy (by kernel_rfl) (by kernel_rfl) ?_|apply eb_n
   all_goals first|omega|(simp only[qAE,qAK,qAb];omega)|skip
   ·simp only[hlen,qAK,qAb];omega
   ·exact⟨i+1,by omega,by omega,zAV (Le_cons rfl (Le_cons rfl (zCR rfl (by rw[hsucc];simp) (Le_all rfl)))) (zAT rfl rfl (zBa rfl rfl hsucc zAW)) rfl rfl⟩
 ·have hge':¬(i:Int)<14:=by omega
  have:i=14:=by omega
  subst this
  skip
  repeat' first|apply en_n|apply zAE|apply zAA|apply zAD|apply w0|exact zBr rfl rfl|apply ay (hd:=rfl)|exact zBB rfl|exact zAp rfl|refine zAK rfl ?_|apply zAN|apply zAz|apply en_e|apply eb_e|apply zAO|(apply zIU;exact rfl;exact rfl;(first|exact rfl|(simp;done)))
  all_goals rfl
end Go.Proofs.YtjcgiiedaccjpaaGreatDoor
namespace Go.Proofs.YtjcgiiedaccjpaaGreatDoor
open Go.Sx Go.Ev
theorem DtL.of_few{l:List Dt}(h:fewD l=true): DtL l:=by
 simp only[fewD,qAR,decide_eq_true_eq]at h
 obtain⟨⟨h1,h2⟩,-⟩:=h
 have hd:∀d∈l,eokD d=true:=fun d hd=>qAI.1 h2 d hd
 refine⟨by omega,fun d hm=>?_,fun d hm c hc=>?_⟩
 ·have:=hd d hm
  simp only[eokD,qAR,decide_eq_true_eq]at this
  omega
 ·have h3:=hd d hm
  simp only[eokD,qAR,decide_eq_true_eq]at h3
  have h4:=qAI.1 h3.2 c hc
  simp only[eokC,qAR,decide_eq_true_eq]at h4
  refine⟨by omega,fun t ht=>?_⟩
  have h5:=qAI.1 h4.2 t ht
  simp only[eokA,qAR,decide_eq_true_eq]at h5
  omega
theorem zOj{l:List Dt}{e:List Nd}{f:Int}(h:fewE l e f=true): DtL l/\l.length<=10/\e.length<=60/\f<=2000:=by
 simp only[fewE,qAR,decide_eq_true_eq]at h
 obtain⟨-,⟨⟨h2,h3⟩,h4⟩,h5⟩:=h
 exact⟨.of_few h2,h3,h4,h5⟩
theorem zMM(t:Tr): (zHq t).length<=t.sz:=by
 unfold zHq
 split
 ·have:=zG3 t [] [];simpa using this
 ·simp
structure Runs(T:List Dt)(L:List Nd): Prop where
 dts:DtL T
 len:L.length<=4000
 ex:∃t:Tr,t.fl=L/\t.wf/\chkT t false=0/\zE7 T t=true
theorem zLH{t:Tr}{p:Bool}(h:chkT t p=0): t.werr p=0:=by
 unfold chkT at h
 split at h
 ·cases h
 ·split at h
  ·rename_i h2;exact absurd h h2
  ·rename_i h2;exact Decidable.not_not.1 h2
theorem Runs.ok{T:List Dt}{L:List Nd}(h:Runs T L)(f:Nat)(hf:f<=100000): (⟨L,T,f⟩:Rn).Ok/\ExAt ⟨L,T,f⟩ 0:=by
 obtain⟨t,rfl,hw,hc,hn⟩:=h.ex
 refine⟨⟨h.len,hf,h.dts,fun x hx hk=>?_⟩,⟨t,At.top hw,zLH hc⟩⟩
 simp only[zE7,qAR]at hn
 have h1:=qAI.1 hn.1 x hx
 unfold nmd1 at h1
 rw[if_neg oM]at h1
 show ∃i j d c,zEA T x.text=some (i,j)/\_
 cases hf:zEA T x.text with
 |none=>rw[hf]at h1;cases h1
 |some r =>
  obtain⟨i,j⟩:=r
  obtain⟨d,c,h2,h3⟩:=zM3 hf
  exact⟨i,j,d,c,rfl,h2,h3⟩
theorem zWm{T:List Dt}{L:List Nd}(h:Runs T L)(f:Nat)(hf:f<=100000): (Go.Ev.seen shwW (⟨L,T,f⟩:Rn).pg).out.length<=f:=by
 obtain⟨hR,h0⟩:=h.ok f hf
 have hC:Cn ⟨L,T,f⟩ (f+1) Go.Ev.start 0:=⟨trivial,trivial,qAN _,qAN _,qAO _,Nat.lt_succ_self _⟩
 have hN:=(hC.next h0 (⟨trivial,trivial⟩:Ce ⟨L,T,f⟩ Go.Ev.start 0 .nil)).cn
 have h1:=hN.out
 have h2:=hN.nle
 have h3:=hN.le
 unfold Go.Ev.seen
 rw[show (⟨L,T,f⟩:Rn).pg.fuel=f from rfl]
 generalize exp shwW (⟨L,T,f⟩:Rn).pg (f+1) Go.Ev.start 0 .nil=r at *
 dsimp only at h1 h2 h3 ⊢
 split <;> (dsimp only;omega)
theorem zTs(shw:Int->List UInt8)(P:Pg): (Go.Ev.seen shw P).vals.length<=4001:=by
 unfold Go.Ev.seen
 dsimp only
 split
 ·dsimp only;split
  ·omega
  ·exact qAO _
 ·exact qAO _
def putX: List UInt8:=[112,117,116]
def aT: Tr:=.mk ⟨6,[],0,2⟩ [.mk ⟨3,putX,0,0⟩ [],.mk ⟨1,[],-7,0⟩ []]
def xT: Tr:=.mk ⟨3,[120],0,0⟩ []
theorem zcE: aT.wf:=by simp[aT,Tr.wf,wfL]
theorem zcl: xT.wf:=by simp[xT,Tr.wf,wfL]
theorem aT_e: zG5 [] aT=0:=by decide +kernel
theorem xT_e: zG5 [] xT=140:=by decide +kernel
theorem d0: DtL []:=⟨by decide,fun d h=>(by cases h),fun d h=>(by cases h)⟩
theorem aT_r: Runs [] aT.fl:=⟨d0,by decide,aT,rfl,zcE,by decide +kernel,by decide +kernel⟩
theorem a10: Go.Ev.seen shwW (⟨aT.fl,[],10⟩:Rn).pg=⟨1,[⟨51,[],-7,0⟩],0,[[126,55]],3⟩:=by kernel_rfl
theorem a2: Go.Ev.seen shwW (⟨aT.fl,[],2⟩:Rn).pg=⟨3,[],0,[],2⟩:=by kernel_rfl
