import Derived.Test.YtcagoomibpcdlaaGreatDoorMAY
import Derived.Test.YtcagoomibpcdlaaGreatDoorMCE
set_option maxHeartbeats 16000000
namespace Go.Proofs.YtcagoomibpcdlaaGreatDoor
open _root_.Go.Proofs.Tryz
open Go.Sx Go.Vm
def zGJ(c:Cn): Bool:=if c.isText then decide (c.num=0)&&decide (c.text.length<=200)else decide (c.text=[])&&decide (Wn c.num=c.num)
def zL7(a b:Cn): Bool:=if a.isText=b.isText then(if a.isText then Op.bytesLess a.text b.text else decide (a.num<b.num))else b.isText
def zD0(l:List Cn)(i:Nat): Bool:=zGJ (l.getD i default)&&(decide (i=0)||zL7 (l.getD (i-1) default) (l.getD i default))
def asmE(l:List Ins): Int:=if decide (l.length>20000)||l.any (fun i=>!zJV i)then 150 else if l.any (fun i=>zHD i.op&&decide (i.a>=(l.length:Int)))then 160 else 0
def imgE(m:Img): Int:=if m.pool.length>4000 then 180 else if(List.range m.pool.length).all (zD0 m.pool)then asmE m.code else 180
attribute [local irreducible] zAL Program.underlying Ylds zA2 alex zBZ zBP awp zAb zBh zBg zAW zBF zAp zCO zBG zBR zAr zBV zBY zBe zCQ zBM zA8 zBE
theorem zW9(c:Cn)(hc:c.text.length<=2000000): zAb prog 70 [enCn c] (bl (zGJ c)):=by
 obtain⟨t,n,s⟩:=c
 have hW:=zFp n
 refine zAj func70 rfl ntmps70 results70 rfl ?_
 intro wb St0
 unfold enCn
 cases t
 ·by_cases hs:s=[]
  ·skip
   exact yP
  ·skip
   exact yP
 ·by_cases hs:n=0
  ·skip
   exact yP
  ·skip
   exact yP
theorem za2(a b:Cn): zAb prog 71 [enCn a,enCn b] (bl (zL7 a b)):=by
 obtain⟨t,n,s⟩:=a
 obtain⟨t',n',s'⟩:=b
 refine zAj func71 rfl ntmps71 results71 rfl ?_
 intro wb St0
 unfold enCn
 cases t <;> cases t'
 all_goals
  dsimp only
  repeat' first|apply en_n|apply zAE|apply zAA|apply zAB|apply w0|(apply zZH;exact rfl;exact rfl;with_reducible exact zZt)|(refine zZJ rfl rfl)|refine aBoA ?_|refine ayA rfl ?_|apply ay (hd:=rfl)|exact zES rfl rfl|(apply zO9;exact rfl;all_goals intro hb)|refine zAJ rfl ?_|refine zAI rfl ?_|apply zAP|apply zAM|apply en_r|apply zAS|refine res1 rfl ?_
  all_goals first|rfl|(exfalso;simp_all)|(apply zDn;simp[zL7])
theorem zVV(i:Ins): zAb prog 115 [enIn i] (bl (!zJV i)):=by
 have hC:=zSV i
 refine zAj func115 rfl ntmps115 results115 rfl ?_
 intro wb St0
 unfold insE at hC
 cases hi:zJV i
 all_goals
  rw[hi]at hC
  unfold enIn at *
  skip
  exact yU
def idxI{α:Type}(p:α->Bool)(L:List α): Int:=match L.findIdx? p with
 |some i=>i
 |none=>-1
theorem zQ9{α:Type}{p:α->Bool}{L:List α}{i:Nat}{v:α}(h:∀(j:Nat) u,j<i->L[j]?=some u->p u=false)(hi:L[i]?=some v)(hv:p v=true): idxI p L=i:=by
 have:L.findIdx? p=some i:=by
  rw[List.findIdx?_eq_some_iff_getElem]
  obtain⟨h1,h2⟩:=qAA.1 hi
  refine⟨h1,by rw[h2];exact hv,fun j hj=>?_⟩
  rw[h j _ hj (qAB (by omega))];simp
 rw[idxI,this]
theorem zOY{α:Type}{p:α->Bool}{L:List α}(h:∀(j:Nat) u,L[j]?=some u->p u=false): idxI p L = -1:=by
 have:L.findIdx? p=none:=by
  rw[List.findIdx?_eq_none_iff]
  intro x hx
  obtain⟨j,hj⟩:=qA1.1 hx
  exact h j x hj
 rw[idxI,this]
theorem zRf{α:Type}{p:α->Bool}{L:List α}: (idxI p L>=0)↔L.any p=true:=by
 constructor
 ·intro h
  unfold idxI at h;split at h
  ·rename_i i hi
   obtain⟨h1,h2,_⟩:=List.findIdx?_eq_some_iff_getElem.1 hi
   exact List.any_eq_true.2 ⟨_,qA8 h1,h2⟩
  ·omega
 ·intro h
  obtain⟨x,hx,hpx⟩:=List.any_eq_true.1 h
  unfold idxI;split
  ·omega
  ·rename_i hn;rw[List.findIdx?_eq_none_iff]at hn;rw[hn x hx]at hpx;cases hpx
theorem zKC{p:Prop}[Decidable p]{b:Bool}(h:p↔b=true): decide p=b:=by
 cases b <;> simp_all
theorem zb9(f:FuncId)(p:Ins->Bool)(hbf:zAL prog f=true)(hp:∀u,zAb prog f [enIn u] (bl (p u)))(E:List Ins)(hE:E.length<=2000000):
  zAp prog 147 [.d (.slice (E.map enIn)),.clo f []] [] (i64 (idxI p E)):=by
 refine zCq func147 rfl ntmps147 results147 rfl ?_
 intro wb St0
 repeat' first|apply en_n|apply zAE|apply zAA|apply zAB|apply w0|refine ayA rfl ?_|apply zAO
 refine zBA (α:=Nat) (fun i=>i<=E.length/\∀(j:Nat) u,j<i->E[j]?=some u->p u=false) (fun i=>[(0,.d (.slice (E.map enIn))),(1,.clo f []),(7,.d (i64 (E.length:Int))),(8,.d (i64 (i:Int)))]) (fun _=>[]) (fun i=>E.length-i) 0 ⟨qAQ _,fun j u h=>by omega⟩
  (zAU (Le_cons rfl (Le_cons rfl (Le_d rfl rfl (Le_all rfl)))) (zAe) rfl rfl) ?_
 rintro i ⟨hi1,hi2⟩
 repeat' first|apply en_n|apply zAE|apply zAA|apply zAB|apply w0|(apply zVs (hb:=hbf) (hc:=hp v);exact rfl)|(apply aI (hd:=rfl);(first|exact zA0 rfl|exact zBX rfl rfl rfl|exact Co_nn rfl);exact rfl;(with_reducible exact zFg);exact fun _=>rfl;rotate_left;intro v hv;rotate_right)|refine ayA rfl ?_|apply ay (hd:=rfl)|exact zES rfl rfl|refine zBp rfl rfl ?_|(apply zBO;exact rfl;all_goals intro hb)|(apply zF1;exact rfl;all_goals intro hb)|apply zAO|apply zAP|apply zAM|apply zBH|apply en_r|apply en_e|apply eb_n|apply eb_r|apply eb_e|apply zAS|refine res1 rfl ?_|exact zAH|refine zAN rfl ?_
 ·omega
 ·exact zMT (zQ9 hi2 hv hb).symm
 ·omega
 ·refine⟨i+1,⟨by omega,fun j u hj hu=>?_⟩,by omega,zAU (Le_all rfl) (zAe) rfl rfl⟩
  rcases qAR j i with h1|h1
  ·exact hi2 j u h1 hu
  ·have hv':E[i]?=some v:=hv
   rw[show j=i by omega,hv']at hu;injection hu with hu;subst hu;exact hb
 ·exact zMT (zOY fun j u hu=>hi2 j u (by have:=(qAA.1 hu).1;omega) hu).symm
theorem zcB(f:FuncId)(p:Ins->Bool)(hbf:zAL prog f=true)(hp:∀u,zAb prog f [enIn u] (bl (p u)))(E:List Ins)(hE:E.length<=2000000):
  zAp prog 114 [.d (.slice (E.map enIn)),.clo f []] [] (bl (E.any p)):=by
 refine zCq func114 rfl ntmps114 results114 rfl ?_
 intro wb St0
 exact yV
theorem zb8(f:FuncId)(c:D)(p:Ins->Bool)(hbf:zAL prog f=true)(hp:∀u,zAp prog f [.d (enIn u),.ptr 0 0] [.box [.d c]] (bl (p u)))(E:List Ins)(hE:E.length<=2000000):
  zAp prog 147 [.d (.slice (E.map enIn)),.clo f [0]] [.box [.d c]] (i64 (idxI p E)):=by
 refine zCq func147 rfl ntmps147 results147 rfl ?_
 intro wb St0
 repeat' first|apply en_n|apply zAE|apply zAA|apply zAB|apply w0|refine ayA rfl ?_|apply zAO
 refine zBA (α:=Nat) (fun i=>i<=E.length/\∀(j:Nat) u,j<i->E[j]?=some u->p u=false) (fun i=>[(0,.d (.slice (E.map enIn))),(1,.clo f [0]),(7,.d (i64 (E.length:Int))),(8,.d (i64 (i:Int)))]) (fun _=>[.box [.d c]]) (fun i=>E.length-i) 0 ⟨qAQ _,fun j u h=>by omega⟩
  (zAU (Le_cons rfl (Le_cons rfl (Le_d rfl rfl (Le_all rfl)))) (zAK rfl rfl zAe) rfl rfl) ?_
 rintro i ⟨hi1,hi2⟩
 repeat' first|apply en_n|apply zAE|apply zAA|apply zAB|apply w0|exact qcA [0] [0] hbf (hp v)|(apply aI (hd:=rfl);(first|exact zA0 rfl|exact zBX rfl rfl rfl|exact Co_nn rfl);exact rfl;(with_reducible exact zFg);exact fun _=>rfl;rotate_left;intro v hv;rotate_right)|refine ayA rfl ?_|apply ay (hd:=rfl)|exact zES rfl rfl|refine zBp rfl rfl ?_|(apply zBO;exact rfl;all_goals intro hb)|(apply zF1;exact rfl;all_goals intro hb)|apply zAO|apply zAP|apply zAM|apply zBH|apply en_r|apply en_e|apply eb_n|apply eb_r|apply eb_e|apply zAS|refine res1 rfl ?_
 ·omega
 ·exact zMT (zQ9 hi2 hv hb).symm
 ·omega
 ·refine⟨i+1,⟨by omega,fun j u hj hu=>?_⟩,by omega,zAU (Le_all rfl) (zAK rfl rfl zAe) rfl rfl⟩
  rcases qAR j i with h1|h1
  ·exact hi2 j u h1 hu
  ·have hv':E[i]?=some v:=hv
   rw[show j=i by omega,hv']at hu;injection hu with hu;subst hu;exact hb
 ·exact zMT (zOY fun j u hu=>hi2 j u (by have:=(qAA.1 hu).1;omega) hu).symm
theorem zcA(f:FuncId)(c:D)(p:Ins->Bool)(hbf:zAL prog f=true)(hp:∀u,zAp prog f [.d (enIn u),.ptr 0 0] [.box [.d c]] (bl (p u)))(E:List Ins)(hE:E.length<=2000000):
  zAp prog 114 [.d (.slice (E.map enIn)),.clo f [0]] [.box [.d c]] (bl (E.any p)):=by
 refine zCq func114 rfl ntmps114 results114 rfl ?_
 intro wb St0
 exact yV
theorem zVU(E:List Ins)(i:Ins): zAp prog 117 [.d (enIn i),.ptr 0 0] [.box [.d (.slice (E.map enIn))]] (bl (zHD i.op&&decide (i.a>=(E.length:Int)))):=by
 have hC:=zU9 i.op
 refine zCq func117 rfl ntmps117 results117 rfl ?_
 intro wb St0
 cases hi:zHD i.op
 all_goals
  rw[hi]at hC
  unfold enIn at *
  skip
  repeat' first|apply en_n|apply zAE|apply zAA|apply zAB|apply w0|refine k1u (hd:=rfl) rfl rfl ?_|exact ycA zF7 hC|refine aBoA ?_|refine ayA rfl ?_|apply ay (hd:=rfl)|exact zJg rfl rfl|refine w1 rfl rfl ?_|apply zAM|apply zAS|refine res1 rfl ?_
  all_goals (apply zDn;simp)
