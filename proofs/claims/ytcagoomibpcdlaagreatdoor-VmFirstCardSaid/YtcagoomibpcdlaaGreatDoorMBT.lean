/- Parts of the proof. -/
import Derived.Test.YtcagoomibpcdlaaGreatDoorMBI
import Derived.Test.YtcagoomibpcdlaaGreatDoorMBS
set_option maxHeartbeats 16000000
namespace Go.Proofs.YtcagoomibpcdlaaGreatDoor
open _root_.Go.Proofs.Tryz
open Go.Sx Go.Vm
def zFA(c:Cn): Bool:=if c.isText then decide (c.num=0)&&decide (c.text.length<=200)else decide (c.text=[])&&decide (Wn c.num=c.num)
def zJw(a b:Cn): Bool:=if a.isText=b.isText then(if a.isText then Op.bytesLess a.text b.text else decide (a.num<b.num))else b.isText
def zDL(l:List Cn)(i:Nat): Bool:=zFA (l.getD i default)&&(decide (i=0)||zJw (l.getD (i-1) default) (l.getD i default))
def asmE(l:List Ins): Int:=if decide (l.length>20000)||l.any (fun i=>!zHp i)then 150 else if l.any (fun i=>zFt i.op&&decide (i.a>=(l.length:Int)))then 160 else 0
def imgE(m:Img): Int:=if m.pool.length>4000 then 180 else if(List.range m.pool.length).all (zDL m.pool)then asmE m.code else 180
attribute [local irreducible] zAN Program.underlying Ylds zA9 alex zB3 zBf awp zAi zCC zCB zAU zBl zAz zDt zBq zBj zBB zBr zB2 zB8 zD7 zBi zBd zBg
theorem zTL(c:Cn)(hc:c.text.length<=2000000): zAi prog 70 [enCn c] (bl (zFA c)):=by
 obtain⟨t,n,s⟩:=c
 have hW:=zEm n
 refine zAs func70 rfl ntmps70 results70 rfl ?_
 intro wb St0
 unfold enCn
 cases t
 ·by_cases hs:s=[]
  ·skip
   repeat' first|apply en_n|apply zAH|apply zAA|apply zAD|apply w0|(apply zVT;exact rfl;exact rfl;assumption)|(refine zAb zEr hW (zAY rfl zAM))|(apply aBox (hd:=rfl) (hro:=rfl);exact rfl;exact rfl)|apply ay (hd:=rfl)|exact zAF rfl|exact zAB rfl|exact zFN rfl rfl|exact zAa rfl rfl|(apply zAC;exact rfl;(with_reducible first|exact zCZ|exact zDD|exact zCp))|(apply zAE;exact rfl;(with_reducible first|exact zD1|exact zDk|exact zAc);exact rfl;exact rfl)|refine w1 rfl rfl ?_|refine zAJ rfl ?_|apply zAS|apply zAQ|refine zAj (by kernel_rfl) (by kernel_rfl) ?_|apply zAR|refine res1 rfl ?_
   all_goals apply zDi
   all_goals simp[zFA,hs]at *
   all_goals first|omega|exact Iff.rfl
  ·skip
   repeat' first|apply en_n|apply zAH|apply zAA|apply zAD|apply w0|(apply zVU;exact rfl;exact rfl;assumption)|(apply aBox (hd:=rfl) (hro:=rfl);exact rfl;exact rfl)|apply ay (hd:=rfl)|exact zAF rfl|exact zAB rfl|exact zAX rfl rfl|(apply zAC;exact rfl;(with_reducible first|exact zCZ|exact zCp))|(apply zAE;exact rfl;(with_reducible first|exact zDk|exact zAc);exact rfl;exact rfl)|(apply k1 (hd:=rfl);exact rfl;exact rfl)|refine zAJ rfl ?_|apply zAS|apply zAQ|refine zAj (by kernel_rfl) (by kernel_rfl) ?_|apply zAR|refine res1 rfl ?_
   all_goals apply zDi
   all_goals simp[zFA,hs]at *
   all_goals first|omega|exact Iff.rfl
 ·by_cases hs:n=0
  ·skip
   repeat' first|apply en_n|apply zAH|apply zAA|apply zAD|apply w0|exact zAk rfl rfl|(apply zEh;exact rfl;with_reducible exact ustr)|(apply aBox (hd:=rfl) (hro:=rfl);exact rfl;exact rfl)|apply ay (hd:=rfl)|exact zAF rfl|exact zAB rfl|exact zIY rfl rfl|exact zAa rfl rfl|(apply zAC;exact rfl;(with_reducible first|exact zCZ|exact zDD|exact zCp))|(apply zAE;exact rfl;(with_reducible first|exact zD1|exact zDk|exact zAc);exact rfl;exact rfl)|refine w1 rfl rfl ?_|refine zAI rfl ?_|apply zAQ|apply en_r|apply zAR|refine res1 rfl ?_
   all_goals apply zDi
   all_goals simp[zFA,hs]at *
   all_goals first|omega|exact Iff.rfl
  ·skip
   repeat' first|apply en_n|apply zAH|apply zAA|apply zAD|apply w0|(apply k1u (hd:=rfl);exact rfl;exact rfl)|exact zAm rfl rfl|(apply aBox (hd:=rfl) (hro:=rfl);exact rfl;exact rfl)|apply ay (hd:=rfl)|exact zAF rfl|exact zAB rfl|exact zAX rfl rfl|(apply zAC;exact rfl;(with_reducible first|exact zCZ|exact zDD))|(apply zAE;exact rfl;(with_reducible first|exact zD1|exact zAc);exact rfl;exact rfl)|refine zAI rfl ?_|apply zAQ|apply en_r|apply zAR|refine res1 rfl ?_
   all_goals apply zDi
   all_goals simp[zFA,hs]at *
   all_goals first|omega|exact Iff.rfl
theorem zWo(a b:Cn): zAi prog 71 [enCn a,enCn b] (bl (zJw a b)):=by
 obtain⟨t,n,s⟩:=a
 obtain⟨t',n',s'⟩:=b
 refine zAs func71 rfl ntmps71 results71 rfl ?_
 intro wb St0
 unfold enCn
 cases t <;> cases t'
 all_goals
  dsimp only
  repeat' first|apply en_n|apply zAH|apply zAA|apply zAD|apply w0|(apply zZI;exact rfl;exact rfl;with_reducible exact zVu)|(refine zVQ rfl rfl)|(apply aBox (hd:=rfl) (hro:=rfl);exact rfl;exact rfl)|apply ay (hd:=rfl)|exact zAB rfl|exact zEw rfl rfl|(apply zAC;exact rfl;(with_reducible first|exact zCZ|exact zDD|exact zCp))|(apply zAE;exact rfl;(with_reducible first|exact zD1|exact zDk|exact zAc);exact rfl;exact rfl)|(apply zRx;exact rfl;all_goals intro hb)|refine zAI rfl ?_|refine zAJ rfl ?_|apply zAS|apply zAQ|apply en_r|apply zAR|refine res1 rfl ?_
  all_goals first|rfl|(exfalso;simp_all)|(apply zDi;simp[zJw])
theorem zRk(i:Ins): zAi prog 115 [enIn i] (bl (!zHp i)):=by
 have hC:=zPO i
 refine zAs func115 rfl ntmps115 results115 rfl ?_
 intro wb St0
 unfold insE at hC
 cases hi:zHp i
 all_goals
  rw[hi]at hC
  unfold enIn at *
  skip
  repeat' first|apply en_n|apply zAH|apply zAA|apply zAD|apply w0|(refine zAb zND hC (zAY rfl zAM))|(apply aBox (hd:=rfl) (hro:=rfl);exact rfl;exact rfl)|apply ay (hd:=rfl)|exact zAB rfl|exact zIG rfl rfl|exact zA4 rfl zA3 rfl rfl rfl|apply zAQ|apply zAR|refine res1 rfl ?_
  all_goals rfl
def idxI{α:Type}(p:α->Bool)(L:List α): Int:=match L.findIdx? p with
 |some i=>i
 |none=>-1
theorem zN9{α:Type}{p:α->Bool}{L:List α}{i:Nat}{v:α}(h:∀(j:Nat) u,j<i->L[j]?=some u->p u=false)(hi:L[i]?=some v)(hv:p v=true): idxI p L=i:=by
 have:L.findIdx? p=some i:=by
  rw[List.findIdx?_eq_some_iff_getElem]
  obtain⟨h1,h2⟩:=qAA.1 hi
  refine⟨h1,by rw[h2];exact hv,fun j hj=>?_⟩
  rw[h j _ hj (qAB (by omega))];simp
 rw[idxI,this]
theorem zLs{α:Type}{p:α->Bool}{L:List α}(h:∀(j:Nat) u,L[j]?=some u->p u=false): idxI p L = -1:=by
 have:L.findIdx? p=none:=by
  rw[List.findIdx?_eq_none_iff]
  intro x hx
  obtain⟨j,hj⟩:=qAu.1 hx
  exact h j x hj
 rw[idxI,this]
theorem zOd{α:Type}{p:α->Bool}{L:List α}: (idxI p L>=0)↔L.any p=true:=by
 constructor
 ·intro h
  unfold idxI at h;split at h
  ·rename_i i hi
   obtain⟨h1,h2,_⟩:=List.findIdx?_eq_some_iff_getElem.1 hi
   exact List.any_eq_true.2 ⟨_,qA9 h1,h2⟩
  ·omega
 ·intro h
  obtain⟨x,hx,hpx⟩:=List.any_eq_true.1 h
  unfold idxI;split
  ·omega
  ·rename_i hn;rw[List.findIdx?_eq_none_iff]at hn;rw[hn x hx]at hpx;cases hpx
theorem zIN{p:Prop}[Decidable p]{b:Bool}(h:p↔b=true): decide p=b:=by
 cases b <;> simp_all
theorem zXs(f:FuncId)(p:Ins->Bool)(hbf:zAN prog f=true)(hp:∀u,zAi prog f [enIn u] (bl (p u)))(E:List Ins)(hE:E.length<=2000000):
  zAz prog 147 [.d (.slice (E.map enIn)),.clo f []] [] (i64 (idxI p E)):=by
 refine zCX func147 rfl ntmps147 results147 rfl ?_
 intro wb St0
 repeat' first|apply en_n|apply zAH|apply zAA|apply zAD|apply w0|apply ay (hd:=rfl)|exact zAF rfl|exact zAB rfl|exact zBI rfl zEd|apply zAL
 refine zBW (α:=Nat) (fun i=>i<=E.length/\∀(j:Nat) u,j<i->E[j]?=some u->p u=false) (fun i=>[(0,.d (.slice (E.map enIn))),(1,.clo f []),(7,.d (i64 (E.length:Int))),(8,.d (i64 (i:Int)))]) (fun _=>[]) (fun i=>E.length-i) 0 ⟨qAX _,fun j u h=>by omega⟩
  (zAT (Le_cons rfl (Le_cons rfl (Le_d rfl rfl (Le_all rfl)))) (zAt) rfl rfl) ?_
 rintro i ⟨hi1,hi2⟩
 repeat' first|apply en_n|apply zAH|apply zAA|apply zAD|apply w0|exact zAf rfl|(apply zSA (hb:=hbf) (hc:=hp v);exact rfl)|(apply aI (hd:=rfl);(first|exact zCW rfl|exact zC3 rfl rfl rfl|exact Co_nn rfl);exact rfl;(with_reducible exact zBh);exact fun _=>rfl;rotate_left;intro v hv;rotate_right)|apply ay (hd:=rfl)|exact zAF rfl|exact zAB rfl|exact zBH rfl zA3 rfl|exact zEw rfl rfl|refine zBE rfl rfl ?_|(apply zBT;exact rfl;all_goals intro hb)|(apply zEt;exact rfl;all_goals intro hb)|apply zAL|apply zAS|apply zAQ|apply zBc|apply en_r|apply en_e|apply eb_n|apply eb_r|apply eb_e|apply zAR|refine res1 rfl ?_|exact zAM|refine zAY rfl ?_
 ·omega
 ·exact zOA (zN9 hi2 hv hb).symm
 ·omega
 ·refine⟨i+1,⟨by omega,fun j u hj hu=>?_⟩,by omega,zAT (Le_all rfl) (zAt) rfl rfl⟩
  rcases qAR j i with h1|h1
  ·exact hi2 j u h1 hu
  ·have hv':E[i]?=some v:=hv
   rw[show j=i by omega,hv']at hu;injection hu with hu;subst hu;exact hb
 ·exact zOA (zLs fun j u hu=>hi2 j u (by have:=(qAA.1 hu).1;omega) hu).symm
theorem zXu(f:FuncId)(p:Ins->Bool)(hbf:zAN prog f=true)(hp:∀u,zAi prog f [enIn u] (bl (p u)))(E:List Ins)(hE:E.length<=2000000):
  zAz prog 114 [.d (.slice (E.map enIn)),.clo f []] [] (bl (E.any p)):=by
 refine zCX func114 rfl ntmps114 results114 rfl ?_
 intro wb St0
 repeat' first|apply en_n|apply zAH|apply zAA|apply zAD|apply w0|exact zAf rfl|(refine zAW [] [] rfl rfl zDV (zXs f p hbf hp E hE) rfl (SArgs_all rfl) rfl (by decide) rfl rfl rfl rfl)|apply ay (hd:=rfl)|exact zAF rfl|exact zAB rfl|exact zJp rfl rfl|apply zAQ|apply zAR|refine res1 rfl ?_
 refine zDi ?_
 exact zIN zOd
theorem zXr(f:FuncId)(c:D)(p:Ins->Bool)(hbf:zAN prog f=true)(hp:∀u,zAz prog f [.d (enIn u),.ptr 0 0] [.box [.d c]] (bl (p u)))(E:List Ins)(hE:E.length<=2000000):
  zAz prog 147 [.d (.slice (E.map enIn)),.clo f [0]] [.box [.d c]] (i64 (idxI p E)):=by
 refine zCX func147 rfl ntmps147 results147 rfl ?_
 intro wb St0
 repeat' first|apply en_n|apply zAH|apply zAA|apply zAD|apply w0|apply ay (hd:=rfl)|exact zAF rfl|exact zAB rfl|exact zBI rfl zEd|apply zAL
 refine zBW (α:=Nat) (fun i=>i<=E.length/\∀(j:Nat) u,j<i->E[j]?=some u->p u=false) (fun i=>[(0,.d (.slice (E.map enIn))),(1,.clo f [0]),(7,.d (i64 (E.length:Int))),(8,.d (i64 (i:Int)))]) (fun _=>[.box [.d c]]) (fun i=>E.length-i) 0 ⟨qAX _,fun j u h=>by omega⟩
  (zAT (Le_cons rfl (Le_cons rfl (Le_d rfl rfl (Le_all rfl)))) (zAO rfl rfl zAt) rfl rfl) ?_
 rintro i ⟨hi1,hi2⟩
 repeat' first|apply en_n|apply zAH|apply zAA|apply zAD|apply w0|exact zAf rfl|(refine zAW [0] [0] rfl rfl hbf (hp v) rfl (SArgs_all rfl) rfl (by decide) rfl rfl rfl rfl)|(apply aI (hd:=rfl);(first|exact zCW rfl|exact zC3 rfl rfl rfl|exact Co_nn rfl);exact rfl;(with_reducible exact zBh);exact fun _=>rfl;rotate_left;intro v hv;rotate_right)|apply ay (hd:=rfl)|exact zAF rfl|exact zAB rfl|exact zBH rfl zA3 rfl|exact zEw rfl rfl|refine zBE rfl rfl ?_|(apply zBT;exact rfl;all_goals intro hb)|(apply zEt;exact rfl;all_goals intro hb)|apply zAL|apply zAS|apply zAQ|apply zBc|apply en_r|apply en_e|apply eb_n|apply eb_r|apply eb_e|apply zAR|refine res1 rfl ?_
 ·omega
 ·exact zOA (zN9 hi2 hv hb).symm
 ·omega
 ·refine⟨i+1,⟨by omega,fun j u hj hu=>?_⟩,by omega,zAT (Le_all rfl) (zAO rfl rfl zAt) rfl rfl⟩
  rcases qAR j i with h1|h1
  ·exact hi2 j u h1 hu
  ·have hv':E[i]?=some v:=hv
   rw[show j=i by omega,hv']at hu;injection hu with hu;subst hu;exact hb
 ·exact zOA (zLs fun j u hu=>hi2 j u (by have:=(qAA.1 hu).1;omega) hu).symm
theorem zXt(f:FuncId)(c:D)(p:Ins->Bool)(hbf:zAN prog f=true)(hp:∀u,zAz prog f [.d (enIn u),.ptr 0 0] [.box [.d c]] (bl (p u)))(E:List Ins)(hE:E.length<=2000000):
  zAz prog 114 [.d (.slice (E.map enIn)),.clo f [0]] [.box [.d c]] (bl (E.any p)):=by
 refine zCX func114 rfl ntmps114 results114 rfl ?_
 intro wb St0
 repeat' first|apply en_n|apply zAH|apply zAA|apply zAD|apply w0|exact zAf rfl|(refine zAW [0] [] rfl rfl zDV (zXr f c p hbf hp E hE) rfl (SArgs_all rfl) rfl (by decide) rfl rfl rfl rfl)|apply ay (hd:=rfl)|exact zAF rfl|exact zAB rfl|exact zJp rfl rfl|apply zAQ|apply zAR|refine res1 rfl ?_
 refine zDi ?_
 exact zIN zOd
theorem zRj(E:List Ins)(i:Ins): zAz prog 117 [.d (enIn i),.ptr 0 0] [.box [.d (.slice (E.map enIn))]] (bl (zFt i.op&&decide (i.a>=(E.length:Int)))):=by
 have hC:=zRU i.op
 refine zCX func117 rfl ntmps117 results117 rfl ?_
 intro wb St0
 cases hi:zFt i.op
 all_goals
  rw[hi]at hC
  unfold enIn at *
  skip
  repeat' first|apply en_n|apply zAH|apply zAA|apply zAD|apply w0|(apply k1u (hd:=rfl);exact rfl;exact rfl)|(refine zAb zEz hC (zAY rfl zAM))|(apply aBox (hd:=rfl) (hro:=rfl);exact rfl;exact rfl)|apply ay (hd:=rfl)|exact zAF rfl|exact zAB rfl|exact zBI rfl zEd|exact zJp rfl rfl|exact zAa rfl rfl|exact zAX rfl rfl|(apply zAC;exact rfl;(with_reducible first|exact zBA|exact zAp))|(apply zAE;exact rfl;(with_reducible first|exact zBo|exact zAd|exact zAP);exact rfl;exact rfl)|refine w1 rfl rfl ?_|apply zAQ|apply zAR|refine res1 rfl ?_
  all_goals (apply zDi;simp)
end Go.Proofs.YtcagoomibpcdlaaGreatDoor
