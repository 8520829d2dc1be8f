import Derived.Test.YtcagoomibpcdlaaGreatDoorMAB
set_option maxHeartbeats 16000000
namespace Go.Sx
open Go.RowKit
section
variable {C:Ctx}{ops:Array Oper}{rest:List Oper}{K:Sl->List Ob->Prop}{σ:Sl}{η:List Ob}{d:Nat}{ty:TypeId}{pos:String}{after:Array Edge}{gd:Option (Nat×Bool)}{t:TypeId}{x y:Operand}
theorem zdr{e sz by':Nat}{xs ys:List D}(hx:oval σ x=.d (.tsl xs))(hy:Co η (oval σ y) (.slice ys))(h0:Nat.blt 0 ys.length=true)
  (he:zBb C.P t=some e) (hs:zA3 C.P t=some sz) (hz:zC6 C.P e=some sz) (hb:zCX C.P t=some by') (hfx:∀d∈xs,d.flat.length=sz) (hf:∀d∈ys,d.flat.length=sz) (hlen:(xs.length+ys.length)*by'<=140737488355328/\xs.length+ys.length<=140737488355328) (hd:Nat.blt d C.N=true) (hro:Nat.ble C.ro η.length=true)
  (hK:alex C false ops rest K ((d,.buf η.length (xs.length+ys.length))::σ) (η++[.buf false e sz (xs++ys)])) :
  zA2 C false ops ⟨some d,.call ⟨.builtin .append, #[x,y], #[t,t]⟩,ty,pos,after,gd⟩ rest K σ η:=by
 have h0:0<ys.length:=by simpa using h0
 obtain⟨e',i,hu,hi',hsz⟩:=zBL hs
 have:e'=e:=by have:=zCE he;rw[hu]at this;injection this with this;injection this
 subst this
 have hby:i.bytes=by':=by
  obtain⟨e2,i2,h1,h2,h3⟩:=zDh hb
  rw[hu]at h1;injection h1 with h1;injection h1 with h1;subst h1
  rw[hi']at h2;injection h2 with h2;subst h2;exact h3
 obtain⟨zv,hzz,hzs⟩:=zGZ hi' hz
 refine zMD (fun g a w ha=>?_) hK
 have hi:=ha.inv
 have hxr:=ha.eval x;rw[hx]at hxr
 obtain⟨sa,hxv,hxr⟩:∃sa,a.eval x=.slice sa xs.length xs.length/\RepD g.St w (.slice sa xs.length xs.length) (.slice xs):=by
  change RepD _ _ _ _ at hxr
  generalize a.eval x=v at hxr
  cases hxr with
  |tsl sa n xs h =>
   have:n=xs.length:=by cases h;assumption
   subst this;exact⟨sa,rfl,h⟩
 obtain⟨sa',cap',olds,hv',_,_,hol,ho1,hocell,horep⟩:=hxr.open_slice hfx
 injection hv' with hv1 hv2 hv3;subst hv1;subst hv3
 have hyr:=(hy.rep hi (ha.eval y)).open_slice hf
 obtain⟨ya,yc,news,hyv,_,_,hnl,hn1,hncell,hnrep⟩:=hyr
 obtain⟨ad,rfl,hnc⟩:=hncell h0
 have hsrc:Src C.P i.size t (.slice (some ad) ys.length yc) ys.length news w:=Src.ofSlice w hu ad ys.length yc news (by rw[hnl,hsz]) (fun j u hj=>(hnc j u hj).2) hn1
 have hold:(Builtin.firstCells i.size xs.length (.slice sa xs.length xs.length)).run C.P w.drew=.ok olds.toArray w.drew:=by
  rcases Nat.eq_zero_or_pos xs.length with hz0|hz0
  ·have hon:olds=[]:=qAq (by rw[hol,hz0];simp)
   rw[hz0,hon]
   cases sa with
   |none=>exact run_firstCells_none w.drew i.size 0 0 0
   |some b=>exact run_firstCells_some w.drew i.size 0 b 0 0 [] (by simp) (fun j u hj=>by simp at hj)
  ·obtain⟨b,rfl,hbc⟩:=hocell hz0
   exact run_firstCells_some w.drew i.size xs.length b xs.length xs.length olds (by rw[hol,hsz]) (fun j u hj=>by simpa using(hbc j u hj).2)
 have hfit:Builtin.nextslicecap (xs.length+ys.length) xs.length*i.bytes<=281474976710656:=growslice_fits (by omega) (by rw[hby];exact hlen.1)
 have hrun:=run_append_grow_src (P:=C.P) w t t ty e' i zv hu hi' hzz sa xs.length xs.length olds hold _ _ _ hsrc (by omega) (by omega) hfit
 generalize hcells:(olds++news).toArray++Builtin.zeroCells zv.cells (grownCap w (xs.length+ys.length) xs.length e'-(xs.length+ys.length))=us' at hrun
 have hge:=grownCap_ge w (xs.length+ys.length) xs.length e'
 have hcm:=grownCap_le_maxLen w (xs.length+ys.length) xs.length e' (by simp only[maxLen];omega)
 have hat:∀j,j<(xs.length+ys.length)*sz->us'[j]?=(olds++news)[j]?:=fun j hj=>by
  rw[<-hcells,qAs (by simp only[qBT,qAE,hol,hnl];rw[<-qAx];exact hj)];simp
 have hcell:∀(j:Nat) (u:Value),(olds++news)[j]?=some u->(w.drew.alloc (.cells us' e')).cell? ⟨w.heap.size,j,none⟩=some u:=fun j u hj=>by
  have hjl:=(qAA.1 hj).1
  rw[qAE,hol,hnl,<-qAx]at hjl
  rw[cell_of_row _ w.heap.size j us' e' (0,0) (_root_.Go.heap_alloc_new w.drew _),hat j hjl];exact hj
 have hsz':us'.size=grownCap w (xs.length+ys.length) xs.length e'*sz:=by
  rw[<-hcells]
  simp only[Array.size_append,qBT,qAE,hol,hnl,size_zeroCells,hzs]
  rw[<-qAx,<-qAx];congr 1;omega
 have hbuf:=ha.newBuf (w':=w.drew.alloc (.cells us' e')) false e' sz (grownCap w (xs.length+ys.length) xs.length e') us' (xs++ys) rfl rfl rfl (by simp) (fun k hk=>Below.heap_alloc w.drew _ k hk) (_root_.Go.heap_alloc_new w.drew _) (qAO hro) (fun d hd=>by
   rcases qAc.1 hd with h|h
   ·exact hfx d h
   ·exact hf d h) (by rw[qAE];exact hge) hcm hsz'
  (fun j u hj hu=>by
   rw[qAE]at hj
   rw[hat j hj]at hu
   rcases qAc.1 (qAF hu)with h|h
   ·exact ho1 u h
   ·exact hn1 u h)
  (fun j u d hu hd=>by
   have hjl:=(qAA.1 hd).1
   rw[zEE,qAE,zB9 hfx,zB9 hf,<-qAx]at hjl
   rw[hat j hjl]at hu
   rw[zEE]at hd
   rcases qAR j olds.length with h1|h1
   ·rw[qAI h1]at hu
    rw[qAI (by rw[zB9 hfx,<-hol];exact h1)]at hd
    exact horep j u d hu hd
   ·rw[qAJ h1]at hu
    rw[qAJ (by rw[zB9 hfx,<-hol];exact h1)]at hd
    rw[zB9 hfx,<-hol]at hd
    exact hnrep _ u d hu hd)
 refine⟨.slice (some ⟨w.heap.size,0,none⟩) (xs.length+ys.length) (grownCap w (xs.length+ys.length) xs.length e'),w.drew.alloc (.cells us' e'),?_,_,hbuf.put (d:=some d) hd ?_⟩
 ·simp only[execOp,resolve,invoke,builtin,Sem.run_bind,Sem.run_pure,Result.andThen_ok,qBH,qAr,qBf,hxv,hyv,hrun]
 ·refine⟨?_,?_⟩
  ·show η.length<g.n+1;have:=ha.inv.n;omega
  ·have hn:=ha.inv.n
   show _=Value.slice ((upd g.blk g.n (some w.heap.size) η.length).map _) _ (upd g.cap g.n _ η.length)
   rw[<-hn];simp[upd]
end
section
variable {P:Program}{η:List Ob}{σ:Sl}{dst:Option Nat}{ty:TypeId}{pos:String}{after:Array Edge}{gd:Option (Nat×Bool)}{t:TypeId}{x y:Operand}
theorem zHf{sz:Nat}(hx:oval σ x=.d (.tsl []))(hy:Co η (oval σ y) (.slice []))(hs:zA3 P t=some sz):
  Ylds P η σ ⟨dst,.call ⟨.builtin .append, #[x,y], #[t,t]⟩,ty,pos,after,gd⟩ (.d (.tsl [])):=by
 obtain⟨e',i,hu,hi',hsz⟩:=zBL hs
 refine Ylds.same fun g w a hi h=>?_
 have hxr:=h x (by simp[Op.operands,Call.operands]);rw[hx]at hxr
 obtain⟨sa,hxv,hxr⟩:∃sa,a.eval x=.slice sa 0 0/\RepD g.St w (.slice sa 0 0) (.slice []):=by
  change RepD _ _ _ _ at hxr
  generalize a.eval x=v at hxr
  cases hxr with
  |tsl sa n xs h =>
   have:n=([]:List D).length:=by cases h;assumption
   subst this;exact⟨sa,rfl,h⟩
 have hyr:=(hy.rep hi (h y (by simp[Op.operands,Call.operands]))).open_slice (sz:=i.size) (by simp)
 obtain⟨ya,yc,news,hyv,_,_,hnl,hn1,hncell,hnrep⟩:=hyr
 refine⟨.slice sa 0 0,?_,RepD.tsl _ 0 [] hxr⟩
 have hrun:(Builtin.append_ #[t,t] ty #[.slice sa 0 0,.slice ya 0 yc]).run P w=.ok (.slice sa 0 0) w:=by
  cases sa <;> cases ya <;> simp[Builtin.append_,run_underlying hu,sizeOf,typeInfo,hi',Builtin.lenOf,Builtin.firstCells,loadCells,loadCellsFrom,storeCells]
 simp only[execOp,resolve,invoke,builtin,Sem.run_bind,Sem.run_pure,Result.andThen_ok,qBH,qAr,qBf,hxv,hyv]
 rw[show ([]:List D).length=0 from rfl,hrun];rfl
end
section
variable {C:Ctx}{l r:List Oper}{es:List Nat}{ηs:List (List Ob)}{j:Nat}{ss:List SV}{σ:Sl}
theorem zGH{t x y ty pos after}{d e sz by' n id:Nat}{ys:List D}{ηi:List Ob}(i:Nat)(hi:idxC es j=some i)(hx:oval σ x=.d (.tsl []))(hy:oval σ y=.d (.slice ys))(hηi:ηs.getD i []=ηi)(h0:Nat.blt 0 ys.length=true)
  (he:zBb C.P t=some e) (hs:zA3 C.P t=some sz) (hz:zC6 C.P e=some sz) (hb:zCX C.P t=some by') (hf:∀d∈ys,d.flat.length=sz) (hlen:ys.length*by'<=140737488355328/\ys.length<=140737488355328) (hd:Nat.blt d C.N=true) (hro:Nat.ble C.ro ηi.length=true) (hn:ys.length=n) (hid:ηi.length=id)
  (hη:ηs.getD (i+1) []=ηi++[.buf false e sz ys]) (hr:segS C l es ηs (j+1) r ss (put σ (some d) (.buf id n))):segS C l es ηs j (⟨some d,.call ⟨.builtin .append, #[x,y], #[t,t]⟩,ty,pos,after,none⟩::r) (.buf id n::ss) σ:=by
 subst hn
 subst hid
 refine⟨⟨rfl,hd,?_⟩,hr⟩
 unfold zN9;rw[hi]
 intro τ hτ
 have ex:∀z:Operand,z∈(Op.call ⟨.builtin .append, #[x,y], #[t,t]⟩).operands->oval τ z=oval σ z:=fun z hz=>by
  cases z with
  |tmp u=>exact hτ u (zBv hz)
  |_=>rfl
 rw[hηi,hη]
 refine EStep.of (ops:=l.toArray) (zdr (xs:=[]) (by rw[ex x (by simp[Op.operands,Call.operands])];exact hx) (by rw[ex y (by simp[Op.operands,Call.operands]),hy];exact zA0 rfl) h0 he hs hz hb (by simp) hf (by simpa using hlen) hd hro (zAB ?_))
 simp only[qAj,qAY,qBj]
 trivial
end
