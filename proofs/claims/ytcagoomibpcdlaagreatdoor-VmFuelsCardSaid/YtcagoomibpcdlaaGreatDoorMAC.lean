/- Texts of this claim, merged: SxBH, SxBI. -/
import Derived.Test.YtcagoomibpcdlaaGreatDoorMAB
namespace Go.Sx
open Go.RowKit
section
variable {P:Program}{η:List Ob}{σ:Sl}{dst:Option Nat}{ty:TypeId}{pos:String}{after:Array Edge}{gd:Option (Nat×Bool)}{t yt:TypeId}{x y:Operand}
theorem zYW{a b:List UInt8}(hx:oval σ x=.d (str a))(hy:oval σ y=.d (str b)): Ylds P η σ ⟨dst,.binOp .lss t x y yt,ty,pos,after,gd⟩ (.d (.val (.bool (Op.bytesLess a b)))) :=
 zE3 hx hy fun w=>by
  have hg:(eqGuard .lss t x y (.string ⟨a.toArray⟩) (.string ⟨b.toArray⟩)).run P w=.ok () w:=by first|rfl|simp[eqGuard]|simp[go_sem]
  simp only[hg,binOp_string_lss,Sem.run_bind,Sem.run_pure,Result.andThen_ok,ByteArray.toList_mk]
theorem zMx{q len:Nat}{n v:Int}{k:IntKind}{tab:List Int}(hG:∀(St:Stab) (w:World),Glob St w→(∀o,St q o)∧∃e,w.heap[q]?=some (.cells (tab.map fun z=>Value.int .i64 z).toArray e (0,0)))(hy:oval σ y=.d (.val (.int k n)))(hs:zO9 P t=some (len,1))(h:0≤n∧n<(len:Int))(hv:tab[n.toNat]?=some v):
  Ylds P η σ ⟨dst,.indexAddr t (.global q) y,ty,pos,after,gd⟩ (.rptr [.val (.int .i64 v)]):=by
 obtain⟨e,i,hu,hinf,hsz⟩:=zJ4 hs
 refine Ylds.same fun g w a hi hr=>?_
 have hyr:=hr y (by simp[Op.operands])
 rw[hy]at hyr
 obtain⟨hst,e2,hh⟩:=hG g.St w hi.gl
 refine⟨.pointer (some ⟨q,n.toNat,none⟩),?_,⟨⟨q,n.toNat,none⟩,[.int .i64 v],rfl,rfl,by simp;rfl,fun j u hu'=>?_,fun j u d hu' hd=>?_⟩⟩
 ·have e1:a.eval (.global q)=.pointer (some ⟨q,0,none⟩):=rfl
  simp[execOp,e1,RepD.val_eq hyr,Instr.indexAt,asIntOf,Instr.sureAddr,run_underlying hu,h.1,h.2,sizeOf,typeInfo,hinf,hsz,Addr.add_lit]
 ·match j,hu' with
  |0,hu' =>
   injection hu' with hu';subst hu'
   refine⟨hst _,?_⟩
   show w.cell? ⟨q,n.toNat+0,none⟩=_
   rw[cell_of_row w q _ _ e2 (0,0) hh,Nat.add_zero]
   simp[hv]
  |j+1,hu'=>simp at hu'
 ·match j,hu',hd with
  |0,hu',hd=>injection hu' with hu';injection hd with hd;subst hu';subst hd;exact .val _
  |j+1,hu',hd=>simp at hu'
end
end Go.Sx
namespace Go.Sx
open Go.RowKit
section
variable {P:Program}{η:List Ob}{σ:Sl}{dst:Option Nat}{ty:TypeId}{pos:String}{after:Array Edge}{gd:Option (Nat×Bool)}{t:TypeId}{x y:Operand}
theorem zYX{sz e n:Nat}{xs:List Operand}{ds:List D}(he:zBc P t=some e)(hs:zA3 P t=some sz)(hz:(zB3 P e).isSome=true)(hp:Nat.blt 0 sz=true)(hb:Nat.ble (n*sz) 16777216=true){parts:Array (Nat×Operand)}(hparts:parts=((xs.zipIdx 0).map fun x=>(x.2,x.1)).toArray)
  (hl:xs.length=n) (hc:CoL η σ xs ds) (hf:∀d∈ds,d.flat.length=sz) (hok:ds.all okc=true):Ylds P η σ ⟨dst,.buildSlice t n parts,ty,pos,after,gd⟩ (.d (.tsl ds)):=by
 have hp:0<sz:=by simpa using hp
 have hb:=Nat.le_of_ble_eq_true hb
 subst hparts
 intro g w a hinv hop
 refine .inl ?_
 obtain⟨e',i,hu,hi,hsz⟩:=zBI hs
 have:e'=e:=by have:=zBt he;rw[hu]at this;injection this with this;injection this
 subst this
 have hrep:=CoL.rep (a:=a) hinv xs ds (fun x hx=>hop x (by
  simp only[Op.operands,List.map_map,List.mem_toArray,List.mem_map]
  obtain⟨j,hj,rfl⟩:=List.mem_iff_getElem.1 hx
  exact⟨(xs[j],j),by rw[List.mem_iff_getElem];exact⟨j,by simpa using hj,by simp⟩,rfl⟩)) hc
 have hlen:=hrep.len
 rw[List.length_map]at hlen
 obtain⟨i1,i2⟩:=RepDs.cells _ ds hrep hf hok
 have hfl:=zFt (sz:=sz) (xs.map a.eval) (fun v hv=>(i1 v hv).1)
 rw[List.length_map,hl]at hfl
 let us:=((xs.map a.eval).flatMap fun v=>v.cells.toList).toArray
 have hus:us.size=n*sz:=by simpa[us]using hfl
 have hpe:((((xs.zipIdx 0).map fun x=>(x.2,x.1)).toArray).map fun (p:Nat×Operand)=>(p.1,a.eval p.2)).toList=(((xs.map a.eval).zipIdx 0).map fun x=>(x.2,x.1)):=by
  simp[List.zipIdx_map,List.map_map,Function.comp_def]
 have hrun:(Instr.buildSlice t n ((((xs.zipIdx 0).map fun x=>(x.2,x.1)).toArray).map fun (p:Nat×Operand)=>(p.1,a.eval p.2))).run P w=.ok (.slice (some ⟨w.heap.size,0,none⟩) n n) (w.alloc (.cells us e')):=by
  have hzz:∃z,i.zero=some z:=by
   unfold zB3 at hz;rw[hi]at hz
   cases hq:i.zero with
   |none=>simp[hq]at hz
   |some z=>exact⟨z,rfl⟩
  obtain⟨z,hzz⟩:=hzz
  by_cases h0:n=0
  ·subst h0
   have hx:xs=[]:=List.eq_nil_of_length_eq_zero hl
   subst hx
   simp[Instr.buildSlice,run_underlying hu,sizeOf,typeInfo,hi,newRow,Instr.fill,us,Array.range_zero']
  ·have hne:¬n*i.size=0:=by rw[hsz];intro h;rcases Nat.mul_eq_zero.1 h with h|h <;> omega
   have hfw:=Great.fill_whole hp (xs.map a.eval) ((Array.range (n*i.size)).map (z.cells[· % z.cells.size]!)) (fun v hv=>(i1 v hv).1) (by simp[hl,hsz])
   exact run_buildSlice w t e' n _ us i z hu hi hzz (by rw[hsz];omega) hne (by rw[hpe];rw[←hsz]at hfw;exact hfw)
 let g':Gh:={ g with St:=fun b o=>g.St b o∨(b=w.heap.size∧o<n*sz) }
 have hgr:Grow g w g' (w.alloc (.cells us e')):=⟨rfl,rfl,rfl,rfl,rfl,rfl,rfl,by simp,fun k hk=>Below.heap_alloc w _ k hk,fun _ _ h=>.inl h,fun b o h=>h.imp_right fun h=>by omega,fun b o h=>by
  rcases h with h|h
  ·exact Nat.lt_of_lt_of_le (hinv.st b o h) (by simp)
  ·rw[h.1];simp⟩
 refine⟨_,g',_,by simp only[execOp,Sem.run_bind];rw[hrun];rfl,hgr,?_⟩
 have hfds:(zB7 ds).length=n*sz:=by rw[zCF hf,←hlen,hl]
 have hn63:n≤maxLen:=by simp only[maxLen];have:n*1≤n*sz:=Nat.mul_le_mul_left _ hp;omega
 refine RepD.tsl _ n ds ?_
 refine RepD.slice _ n n sz ds us.toList (by omega) (Nat.le_refl _) hn63 hf (by rw[Array.length_toList,hus,hfds]) (fun u hu=>?_) (fun h0=>⟨_,rfl,fun j u hj=>⟨.inr ⟨rfl,?_⟩,?_⟩⟩) (fun j u d hu hd=>?_)
 ·simp only[us,List.mem_flatMap]at hu
  obtain⟨v,hv,hm⟩:=hu
  exact(i1 v hv).2 u (by simpa using hm)
 ·have:=(List.getElem?_eq_some_iff.1 hj).1
  rw[Array.length_toList,hus]at this;simpa using this
 ·rw[Addr.add_lit,Nat.zero_add,cell_of_row _ _ j us e' (0,0) (_root_.Go.heap_alloc_new w _)]
  rw[←Array.getElem?_toList];exact hj
 ·exact(i2 j u d (by simpa[us]using hu) hd).keep (hgr.keep hinv.st)
theorem zRX{sz e:Nat}(he:zBc P t=some e)(hs:zA3 P t=some sz)(hz:(zB3 P e).isSome=true)(hp:Nat.blt 0 sz=true): Ylds P η σ ⟨dst,.buildSlice t 0 #[],ty,pos,after,gd⟩ (.d (.tsl [])) :=
 zYX (xs:=[]) he hs hz hp (by simp) (by rfl) rfl zAR (by simp) rfl
theorem zWp{sz:Nat}(hx:oval σ x=.d (.tsl []))(hy:Co η (oval σ y) (.slice []))(hs:zA3 P t=some sz):
  Ylds P η σ ⟨dst,.call ⟨.builtin .append, #[x,y], #[t,t]⟩,ty,pos,after,gd⟩ (.d (.slice [])):=by
 obtain⟨e',i,hu,hi',hsz⟩:=zBI hs
 refine Ylds.same fun g w a hi h=>?_
 have hxr:=h x (by simp[Op.operands,Call.operands]);rw[hx]at hxr
 obtain⟨sa,hxv,hxr⟩:∃sa,a.eval x=.slice sa 0 0∧RepD g.St w (.slice sa 0 0) (.slice []):=by
  change RepD _ _ _ _ at hxr
  generalize a.eval x=v at hxr
  cases hxr with
  |tsl sa n xs h =>
   have:n=([]:List D).length:=by cases h;assumption
   subst this;exact⟨sa,rfl,h⟩
 have hyr:=(hy.rep hi (h y (by simp[Op.operands,Call.operands]))).open_slice (sz:=i.size) (by simp)
 obtain⟨ya,yc,news,hyv,_,_,hnl,hn1,hncell,hnrep⟩:=hyr
 refine⟨.slice sa 0 0,?_,hxr⟩
 have hrun:(Builtin.append_ #[t,t] ty #[.slice sa 0 0,.slice ya 0 yc]).run P w=.ok (.slice sa 0 0) w:=by
  cases sa <;> cases ya <;> simp[Builtin.append_,run_underlying hu,sizeOf,typeInfo,hi',Builtin.lenOf,Builtin.firstCells,loadCells,loadCellsFrom,storeCells]
 simp only[execOp,resolve,invoke,builtin,Sem.run_bind,Sem.run_pure,Result.andThen_ok,List.map_toArray,List.map_cons,List.map_nil,hxv,hyv]
 rw[show ([]:List D).length=0 from rfl,hrun];rfl
theorem zRc{e sz by':Nat}{ys:List D}(hx:oval σ x=.d (.tsl []))(hy:Co η (oval σ y) (.slice ys))
  (he:zBc P t=some e) (hs:zA3 P t=some sz) (hz:zDF P e=some sz) (hb:zCf P t=some by') (hf:∀d∈ys,d.flat.length=sz) (hlen:ys.length*by'≤140737488355328∧ys.length≤140737488355328) :
  Ylds P η σ ⟨dst,.call ⟨.builtin .append, #[x,y], #[t,t]⟩,ty,pos,after,gd⟩ (.d (.slice ys)):=by
 cases ys with
 |nil=>exact zWp hx hy hs
 |cons y0 r =>
  have:=zYc (P:=P) (dst:=dst) (ty:=ty) (pos:=pos) (after:=after) (gd:=gd) hx hy (by simp) he hs hz hb (by simp) hf (by simpa using hlen)
  simpa using this
end
end Go.Sx
