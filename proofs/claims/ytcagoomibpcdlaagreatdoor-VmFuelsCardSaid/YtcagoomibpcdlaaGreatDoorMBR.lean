/- Texts of this claim, merged: VmDN. -/
import Derived.Test.YtcagoomibpcdlaaGreatDoorMBH
import Derived.Test.YtcagoomibpcdlaaGreatDoorMBQ
namespace Go.Proofs.YtcagoomibpcdlaaGreatDoor
open Go.Sx Go.Vm
def zHO(c:Cn): Bool:=if c.isText then decide (c.num=0)&&decide (c.text.length≤200)else decide (c.text=[])&&decide (Wn c.num=c.num)
def zQg(a b:Cn): Bool:=if a.isText=b.isText then(if a.isText then Op.bytesLess a.text b.text else decide (a.num<b.num))else b.isText
def zFJ(l:List Cn)(i:Nat): Bool:=zHO (l.getD i default)&&(decide (i=0)||zQg (l.getD (i-1) default) (l.getD i default))
def asmE(l:List Ins): Int:=if decide (l.length>20000)||l.any (fun i=>!zKd i)then 150 else if l.any (fun i=>zID i.op&&decide (i.a≥(l.length:Int)))then 160 else 0
def imgE(m:Img): Int:=if m.pool.length>4000 then 180 else if(List.range m.pool.length).all (zFJ m.pool)then asmE m.code else 180
attribute [local irreducible] zAQ Program.underlying Ylds zBD alex zCA zBi awp zAp zCI zCH zAW zBw zA5 zD4 zB0 zBp zBF zBv zB9 zCE zES zBn zBm zBs
theorem zSi(c:Cn)(hc:c.text.length≤2000000): zAp Tryz.prog 70 [enCn c] (bl (zHO c)):=by
 obtain⟨t,n,s⟩:=c
 have hW:=zEc n
 refine zA8 Tryz.func70 rfl Tryz.ntmps70 Tryz.results70 rfl ?_
 intro wb St0
 unfold enCn
 cases t
 ·by_cases hs:s=[]
  ·skip
   repeat' first|apply en_n|apply zAK|apply zAA|apply zAF|apply w0|(apply zYZ;exact rfl;exact rfl;assumption)|(refine zAh zEg hW (zAa rfl zAR))|(apply aBox (hd:=rfl) (hro:=rfl);exact rfl;exact rfl)|apply ay (hd:=rfl)|exact zAJ rfl|exact zAD rfl|exact zGM rfl rfl|exact zAj rfl rfl|(apply zAC;exact rfl;(with_reducible first|exact zDa|exact zFP|exact zEM))|(apply zAG;exact rfl;(with_reducible first|exact zFh|exact zFg|exact zAg);exact rfl;exact rfl)|(apply w1;exact rfl;exact rfl)|(apply zAM;exact rfl)|apply zAU|apply zAT|refine zAr (by kernel_rfl) (by kernel_rfl) ?_|apply zAY|(apply res1;exact rfl)
   all_goals apply zEa
   all_goals simp[zHO,hs]at *
   all_goals first|omega|exact Iff.rfl
  ·skip
   repeat' first|apply en_n|apply zAK|apply zAA|apply zAF|apply w0|(apply zYa;exact rfl;exact rfl;assumption)|(apply aBox (hd:=rfl) (hro:=rfl);exact rfl;exact rfl)|apply ay (hd:=rfl)|exact zAJ rfl|exact zAD rfl|exact zAc rfl rfl|(apply zAC;exact rfl;(with_reducible first|exact zDa|exact zEM))|(apply zAG;exact rfl;(with_reducible first|exact zFg|exact zAg);exact rfl;exact rfl)|(apply k1 (hd:=rfl);exact rfl;exact rfl)|(apply zAM;exact rfl)|apply zAU|apply zAT|refine zAr (by kernel_rfl) (by kernel_rfl) ?_|apply zAY|(apply res1;exact rfl)
   all_goals apply zEa
   all_goals simp[zHO,hs]at *
   all_goals first|omega|exact Iff.rfl
 ·by_cases hs:n=0
  ·skip
   repeat' first|apply en_n|apply zAK|apply zAA|apply zAF|apply w0|(apply zAn;exact rfl;exact rfl;first|assumption|omega)|(apply zFx;exact rfl;with_reducible exact ustr)|(apply aBox (hd:=rfl) (hro:=rfl);exact rfl;exact rfl)|apply ay (hd:=rfl)|exact zAJ rfl|exact zAD rfl|exact zJi rfl rfl|exact zAj rfl rfl|(apply zAC;exact rfl;(with_reducible first|exact zDa|exact zFP|exact zEM))|(apply zAG;exact rfl;(with_reducible first|exact zFh|exact zFg|exact zAg);exact rfl;exact rfl)|(apply w1;exact rfl;exact rfl)|(apply zAL;exact rfl)|apply zAT|apply en_r|apply zAY|(apply res1;exact rfl)
   all_goals apply zEa
   all_goals simp[zHO,hs]at *
   all_goals first|omega|exact Iff.rfl
  ·skip
   repeat' first|apply en_n|apply zAK|apply zAA|apply zAF|apply w0|(apply k1u (hd:=rfl);exact rfl;exact rfl)|(apply zAs;exact rfl;exact rfl;first|assumption|omega)|(apply aBox (hd:=rfl) (hro:=rfl);exact rfl;exact rfl)|apply ay (hd:=rfl)|exact zAJ rfl|exact zAD rfl|exact zAc rfl rfl|(apply zAC;exact rfl;(with_reducible first|exact zDa|exact zFP))|(apply zAG;exact rfl;(with_reducible first|exact zFh|exact zAg);exact rfl;exact rfl)|(apply zAL;exact rfl)|apply zAT|apply en_r|apply zAY|(apply res1;exact rfl)
   all_goals apply zEa
   all_goals simp[zHO,hs]at *
   all_goals first|omega|exact Iff.rfl
theorem zVx(a b:Cn): zAp Tryz.prog 71 [enCn a,enCn b] (bl (zQg a b)):=by
 obtain⟨t,n,s⟩:=a
 obtain⟨t',n',s'⟩:=b
 refine zA8 Tryz.func71 rfl Tryz.ntmps71 Tryz.results71 rfl ?_
 intro wb St0
 unfold enCn
 cases t <;> cases t'
 all_goals
  dsimp only
  repeat' first|apply en_n|apply zAK|apply zAA|apply zAF|apply w0|(apply zYT;exact rfl;exact rfl;with_reducible exact zXB)|(refine zYW rfl rfl)|(apply aBox (hd:=rfl) (hro:=rfl);exact rfl;exact rfl)|apply ay (hd:=rfl)|exact zAD rfl|exact zGm rfl rfl|(apply zAC;exact rfl;(with_reducible first|exact zDa|exact zFP|exact zEM))|(apply zAG;exact rfl;(with_reducible first|exact zFh|exact zFg|exact zAg);exact rfl;exact rfl)|(apply zRK;exact rfl;(intro hb);rotate_left;(intro hb);rotate_right)|(apply zAL;exact rfl)|(apply zAM;exact rfl)|apply zAU|apply zAT|apply en_r|apply zAY|(apply res1;exact rfl)
  all_goals first|rfl|(exfalso;simp_all)|(apply zEa;simp[zQg])
theorem zQ7(i:Ins): zAp Tryz.prog 115 [enIn i] (bl (!zKd i)):=by
 have hC:=zOm i
 refine zA8 Tryz.func115 rfl Tryz.ntmps115 Tryz.results115 rfl ?_
 intro wb St0
 unfold insE at hC
 cases hi:zKd i
 all_goals
  rw[hi]at hC
  unfold enIn at *
  skip
  repeat' first|apply en_n|apply zAK|apply zAA|apply zAF|apply w0|(refine zAh zMi hC (zAa rfl zAR))|(apply aBox (hd:=rfl) (hro:=rfl);exact rfl;exact rfl)|apply ay (hd:=rfl)|exact zAD rfl|exact zHz rfl rfl|(apply zBG;exact rfl;(with_reducible exact zA6);exact rfl;exact rfl;exact rfl)|apply zAT|apply zAY|(apply res1;exact rfl)
  all_goals rfl
def idxI{α:Type}(p:α→Bool)(L:List α): Int:=match L.findIdx? p with
 |some i=>i
 |none=>-1
theorem zNe{α:Type}{p:α→Bool}{L:List α}{i:Nat}{v:α}(h:∀(j:Nat) u,j<i→L[j]?=some u→p u=false)(hi:L[i]?=some v)(hv:p v=true): idxI p L=i:=by
 have:L.findIdx? p=some i:=by
  rw[List.findIdx?_eq_some_iff_getElem]
  obtain⟨h1,h2⟩:=List.getElem?_eq_some_iff.1 hi
  refine⟨h1,by rw[h2];exact hv,fun j hj=>?_⟩
  rw[h j _ hj (List.getElem?_eq_getElem (by omega))];simp
 rw[idxI,this]
theorem zLQ{α:Type}{p:α→Bool}{L:List α}(h:∀(j:Nat) u,L[j]?=some u→p u=false): idxI p L = -1:=by
 have:L.findIdx? p=none:=by
  rw[List.findIdx?_eq_none_iff]
  intro x hx
  obtain⟨j,hj⟩:=List.mem_iff_getElem?.1 hx
  exact h j x hj
 rw[idxI,this]
theorem zN4{α:Type}{p:α→Bool}{L:List α}: (idxI p L≥0)↔L.any p=true:=by
 constructor
 ·intro h
  unfold idxI at h;split at h
  ·rename_i i hi
   obtain⟨h1,h2,_⟩:=List.findIdx?_eq_some_iff_getElem.1 hi
   exact List.any_eq_true.2 ⟨_,List.getElem_mem h1,h2⟩
  ·omega
 ·intro h
  obtain⟨x,hx,hpx⟩:=List.any_eq_true.1 h
  unfold idxI;split
  ·omega
  ·rename_i hn;rw[List.findIdx?_eq_none_iff]at hn;rw[hn x hx]at hpx;cases hpx
theorem zH6{p:Prop}[Decidable p]{b:Bool}(h:p↔b=true): decide p=b:=by
 cases b <;> simp_all
theorem zW1(f:FuncId)(p:Ins→Bool)(hbf:zAQ Tryz.prog f=true)(hp:∀u,zAp Tryz.prog f [enIn u] (bl (p u)))(E:List Ins)(hE:E.length≤2000000):
  zA5 Tryz.prog 147 [.d (.slice (E.map enIn)),.clo f []] [] (i64 (idxI p E)):=by
 refine zCW Tryz.func147 rfl Tryz.ntmps147 Tryz.results147 rfl ?_
 intro wb St0
 repeat' first|apply en_n|apply zAK|apply zAA|apply zAF|apply w0|apply ay (hd:=rfl)|exact zAJ rfl|exact zAD rfl|(apply zBZ;exact rfl;(with_reducible exact zFf))|apply zAO
 refine zBo (α:=Nat) (fun i=>i≤E.length∧∀(j:Nat) u,j<i→E[j]?=some u→p u=false) (fun i=>[(0,.d (.slice (E.map enIn))),(1,.clo f []),(7,.d (i64 (E.length:Int))),(8,.d (i64 (i:Int)))]) (fun _=>[]) (fun i=>E.length-i) 0 ⟨Nat.zero_le _,fun j u h=>by omega⟩
  (zAV (zAI rfl (zAI rfl (Le_d rfl rfl (zAI rfl zAd)))) (zA7) rfl rfl) ?_
 rintro i ⟨hi1,hi2⟩
 repeat' first|apply en_n|apply zAK|apply zAA|apply zAF|apply w0|exact zAi rfl|(apply zRU (hb:=hbf) (hc:=hp v);exact rfl)|(apply aI (hd:=rfl);(first|exact zCw rfl|exact zDn rfl rfl rfl|exact Co_nn rfl);exact rfl;(with_reducible exact zB6);exact fun _=>rfl;rotate_left;intro v hv;rotate_right)|apply ay (hd:=rfl)|exact zAJ rfl|exact zAD rfl|(apply zBU;exact rfl;(with_reducible exact zA6);exact rfl)|exact zGm rfl rfl|(apply zBL;exact rfl;exact rfl)|(apply zCO;exact rfl;(intro hb);rotate_left;(intro hb);rotate_right)|(apply zFF;exact rfl;(intro hb);rotate_left;(intro hb);rotate_right)|apply zAO|apply zAU|apply zAT|apply zBu|apply en_r|apply en_e|apply eb_n|apply eb_r|apply eb_e|apply zAY|(apply res1;exact rfl)|exact zAR|refine zAa rfl ?_
 ·omega
 ·exact zNf (zNe hi2 hv hb).symm
 ·omega
 ·refine⟨i+1,⟨by omega,fun j u hj hu=>?_⟩,by omega,zAV (zAI rfl (zAI rfl (zAI rfl (zAI rfl zAd)))) (zA7) rfl rfl⟩
  rcases Nat.lt_or_ge j i with h1|h1
  ·exact hi2 j u h1 hu
  ·have hv':E[i]?=some v:=hv
   rw[show j=i by omega,hv']at hu;injection hu with hu;subst hu;exact hb
 ·exact zNf (zLQ fun j u hu=>hi2 j u (by have:=(List.getElem?_eq_some_iff.1 hu).1;omega) hu).symm
theorem zW3(f:FuncId)(p:Ins→Bool)(hbf:zAQ Tryz.prog f=true)(hp:∀u,zAp Tryz.prog f [enIn u] (bl (p u)))(E:List Ins)(hE:E.length≤2000000):
  zA5 Tryz.prog 114 [.d (.slice (E.map enIn)),.clo f []] [] (bl (E.any p)):=by
 refine zCW Tryz.func114 rfl Tryz.ntmps114 Tryz.results114 rfl ?_
 intro wb St0
 repeat' first|apply en_n|apply zAK|apply zAA|apply zAF|apply w0|exact zAi rfl|(refine zAZ [] [] rfl rfl zDL (zW1 f p hbf hp E hE) rfl ?_ rfl (by decide) rfl rfl rfl rfl;(repeat (refine zAB rfl ?_));exact zAE)|apply ay (hd:=rfl)|exact zAJ rfl|exact zAD rfl|exact zL3 rfl rfl|apply zAT|apply zAY|(apply res1;exact rfl)
 refine zEa ?_
 exact zH6 zN4
theorem zW0(f:FuncId)(c:D)(p:Ins→Bool)(hbf:zAQ Tryz.prog f=true)(hp:∀u,zA5 Tryz.prog f [.d (enIn u),.ptr 0 0] [.box [.d c]] (bl (p u)))(E:List Ins)(hE:E.length≤2000000):
  zA5 Tryz.prog 147 [.d (.slice (E.map enIn)),.clo f [0]] [.box [.d c]] (i64 (idxI p E)):=by
 refine zCW Tryz.func147 rfl Tryz.ntmps147 Tryz.results147 rfl ?_
 intro wb St0
 repeat' first|apply en_n|apply zAK|apply zAA|apply zAF|apply w0|apply ay (hd:=rfl)|exact zAJ rfl|exact zAD rfl|(apply zBZ;exact rfl;(with_reducible exact zFf))|apply zAO
 refine zBo (α:=Nat) (fun i=>i≤E.length∧∀(j:Nat) u,j<i→E[j]?=some u→p u=false) (fun i=>[(0,.d (.slice (E.map enIn))),(1,.clo f [0]),(7,.d (i64 (E.length:Int))),(8,.d (i64 (i:Int)))]) (fun _=>[.box [.d c]]) (fun i=>E.length-i) 0 ⟨Nat.zero_le _,fun j u h=>by omega⟩
  (zAV (zAI rfl (zAI rfl (Le_d rfl rfl (zAI rfl zAd)))) (zAP rfl rfl zA7) rfl rfl) ?_
 rintro i ⟨hi1,hi2⟩
 repeat' first|apply en_n|apply zAK|apply zAA|apply zAF|apply w0|exact zAi rfl|(refine zAZ [0] [0] rfl rfl hbf (hp v) rfl ?_ rfl (by decide) rfl rfl rfl rfl;(repeat (refine zAB rfl ?_));exact zAE)|(apply aI (hd:=rfl);(first|exact zCw rfl|exact zDn rfl rfl rfl|exact Co_nn rfl);exact rfl;(with_reducible exact zB6);exact fun _=>rfl;rotate_left;intro v hv;rotate_right)|apply ay (hd:=rfl)|exact zAJ rfl|exact zAD rfl|(apply zBU;exact rfl;(with_reducible exact zA6);exact rfl)|exact zGm rfl rfl|(apply zBL;exact rfl;exact rfl)|(apply zCO;exact rfl;(intro hb);rotate_left;(intro hb);rotate_right)|(apply zFF;exact rfl;(intro hb);rotate_left;(intro hb);rotate_right)|apply zAO|apply zAU|apply zAT|apply zBu|apply en_r|apply en_e|apply eb_n|apply eb_r|apply eb_e|apply zAY|(apply res1;exact rfl)
 ·omega
 ·exact zNf (zNe hi2 hv hb).symm
 ·omega
 ·refine⟨i+1,⟨by omega,fun j u hj hu=>?_⟩,by omega,zAV (zAI rfl (zAI rfl (zAI rfl (zAI rfl zAd)))) (zAP rfl rfl zA7) rfl rfl⟩
  rcases Nat.lt_or_ge j i with h1|h1
  ·exact hi2 j u h1 hu
  ·have hv':E[i]?=some v:=hv
   rw[show j=i by omega,hv']at hu;injection hu with hu;subst hu;exact hb
 ·exact zNf (zLQ fun j u hu=>hi2 j u (by have:=(List.getElem?_eq_some_iff.1 hu).1;omega) hu).symm
theorem zW2(f:FuncId)(c:D)(p:Ins→Bool)(hbf:zAQ Tryz.prog f=true)(hp:∀u,zA5 Tryz.prog f [.d (enIn u),.ptr 0 0] [.box [.d c]] (bl (p u)))(E:List Ins)(hE:E.length≤2000000):
  zA5 Tryz.prog 114 [.d (.slice (E.map enIn)),.clo f [0]] [.box [.d c]] (bl (E.any p)):=by
 refine zCW Tryz.func114 rfl Tryz.ntmps114 Tryz.results114 rfl ?_
 intro wb St0
 repeat' first|apply en_n|apply zAK|apply zAA|apply zAF|apply w0|exact zAi rfl|(refine zAZ [0] [] rfl rfl zDL (zW0 f c p hbf hp E hE) rfl ?_ rfl (by decide) rfl rfl rfl rfl;(repeat (refine zAB rfl ?_));exact zAE)|apply ay (hd:=rfl)|exact zAJ rfl|exact zAD rfl|exact zL3 rfl rfl|apply zAT|apply zAY|(apply res1;exact rfl)
 refine zEa ?_
 exact zH6 zN4
theorem zQ6(E:List Ins)(i:Ins): zA5 Tryz.prog 117 [.d (enIn i),.ptr 0 0] [.box [.d (.slice (E.map enIn))]] (bl (zID i.op&&decide (i.a≥(E.length:Int)))):=by
 have hC:=zQt i.op
 refine zCW Tryz.func117 rfl Tryz.ntmps117 Tryz.results117 rfl ?_
 intro wb St0
 cases hi:zID i.op
 all_goals
  rw[hi]at hC
  unfold enIn at *
  skip
  repeat' first|apply en_n|apply zAK|apply zAA|apply zAF|apply w0|(apply k1u (hd:=rfl);exact rfl;exact rfl)|(refine zAh zEm hC (zAa rfl zAR))|(apply aBox (hd:=rfl) (hro:=rfl);exact rfl;exact rfl)|apply ay (hd:=rfl)|exact zAJ rfl|exact zAD rfl|(apply zBZ;exact rfl;(with_reducible exact zFf))|exact zL3 rfl rfl|exact zAj rfl rfl|exact zAc rfl rfl|(apply zAC;exact rfl;(with_reducible first|exact zBJ|exact zAu))|(apply zAG;exact rfl;(with_reducible first|exact zBk|exact zAf|exact zAS);exact rfl;exact rfl)|(apply w1;exact rfl;exact rfl)|apply zAT|apply zAY|(apply res1;exact rfl)
  all_goals (apply zEa;simp)
end Go.Proofs.YtcagoomibpcdlaaGreatDoor
