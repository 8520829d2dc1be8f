/- Parts of the proof. -/
import Derived.Test.YtcagoomibpcdlaaGreatDoorMBD
import Derived.Test.YtcagoomibpcdlaaGreatDoorMBN
set_option maxHeartbeats 16000000
namespace Go.Proofs.YtcagoomibpcdlaaGreatDoor
open _root_.Go.Proofs.Tryz
open Go.Sx Go.Vm
def zFG(c:Cn): Bool:=if c.isText then decide (c.num=0)&&decide (c.text.length<=200)else decide (c.text=[])&&decide (Wn c.num=c.num)
def zKP(a b:Cn): Bool:=if a.isText=b.isText then(if a.isText then Op.bytesLess a.text b.text else decide (a.num<b.num))else b.isText
def zDN(l:List Cn)(i:Nat): Bool:=zFG (l.getD i default)&&(decide (i=0)||zKP (l.getD (i-1) default) (l.getD i default))
def asmE(l:List Ins): Int:=if decide (l.length>20000)||l.any (fun i=>!zH1 i)then 150 else if l.any (fun i=>zFz i.op&&decide (i.a>=(l.length:Int)))then 160 else 0
def imgE(m:Img): Int:=if m.pool.length>4000 then 180 else if(List.range m.pool.length).all (zDN m.pool)then asmE m.code else 180
attribute [local irreducible] zAO Program.underlying Ylds zBE alex zB0 zBk awp zAg zB9 zB8 zAU zBj zA6 zDJ zBl zBn zBC zBq zBz zB7 zDQ zBm zBc zBe
theorem zT7(c:Cn)(hc:c.text.length<=2000000): zAg prog 70 [enCn c] (bl (zFG c)):=by
 obtain⟨t,n,s⟩:=c
 have hW:=zEt n
 refine zAr func70 rfl ntmps70 results70 rfl ?_
 intro wb St0
 unfold enCn
 cases t
 ·by_cases hs:s=[]
  ·skip
   repeat' first|apply en_n|apply zAG|apply zAA|apply zAD|apply w0|(apply zV9;exact rfl;exact rfl;assumption)|(refine zAd zEy hW (CoLA rfl))|refine aBox (hd:=rfl) (hro:=rfl) rfl rfl ?_|apply ay (hd:=rfl)|exact zAF rfl|exact zAB rfl|exact zE6 rfl rfl|exact zAZ rfl rfl|(apply zAC;exact rfl;(with_reducible first|exact zCc|exact zDn|exact zC4))|(apply zAE;exact rfl;(with_reducible first|exact zEP|exact zEO|exact zAb);exact rfl;exact rfl)|refine w1 rfl rfl ?_|refine zAJ rfl ?_|apply zAR|apply zAQ|refine zAf (by kernel_rfl) (by kernel_rfl) ?_|apply zAT|refine res1 rfl ?_
   all_goals apply zDR
   all_goals simp[zFG,hs]at *
   all_goals first|omega|exact Iff.rfl
  ·skip
   repeat' first|apply en_n|apply zAG|apply zAA|apply zAD|apply w0|(apply zWA;exact rfl;exact rfl;assumption)|refine aBox (hd:=rfl) (hro:=rfl) rfl rfl ?_|apply ay (hd:=rfl)|exact zAF rfl|exact zAB rfl|exact zAV rfl rfl|(apply zAC;exact rfl;(with_reducible first|exact zCc|exact zC4))|(apply zAE;exact rfl;(with_reducible first|exact zEO|exact zAb);exact rfl;exact rfl)|refine k1 (hd:=rfl) rfl rfl ?_|refine zAJ rfl ?_|apply zAR|apply zAQ|refine zAf (by kernel_rfl) (by kernel_rfl) ?_|apply zAT|refine res1 rfl ?_
   all_goals apply zDR
   all_goals simp[zFG,hs]at *
   all_goals first|omega|exact Iff.rfl
 ·by_cases hs:n=0
  ·skip
   repeat' first|apply en_n|apply zAG|apply zAA|apply zAD|apply w0|exact zAi rfl rfl|(apply zEY;exact rfl;with_reducible exact ustr)|refine aBox (hd:=rfl) (hro:=rfl) rfl rfl ?_|apply ay (hd:=rfl)|exact zAF rfl|exact zAB rfl|exact zGk rfl rfl|exact zAZ rfl rfl|(apply zAC;exact rfl;(with_reducible first|exact zCc|exact zDn|exact zC4))|(apply zAE;exact rfl;(with_reducible first|exact zEP|exact zEO|exact zAb);exact rfl;exact rfl)|refine w1 rfl rfl ?_|refine zAI rfl ?_|apply zAQ|apply en_r|apply zAT|refine res1 rfl ?_
   all_goals apply zDR
   all_goals simp[zFG,hs]at *
   all_goals first|omega|exact Iff.rfl
  ·skip
   repeat' first|apply en_n|apply zAG|apply zAA|apply zAD|apply w0|refine k1u (hd:=rfl) rfl rfl ?_|exact zAn rfl rfl|refine aBox (hd:=rfl) (hro:=rfl) rfl rfl ?_|apply ay (hd:=rfl)|exact zAF rfl|exact zAB rfl|exact zAV rfl rfl|(apply zAC;exact rfl;(with_reducible first|exact zCc|exact zDn))|(apply zAE;exact rfl;(with_reducible first|exact zEP|exact zAb);exact rfl;exact rfl)|refine zAI rfl ?_|apply zAQ|apply en_r|apply zAT|refine res1 rfl ?_
   all_goals apply zDR
   all_goals simp[zFG,hs]at *
   all_goals first|omega|exact Iff.rfl
theorem zXY(a b:Cn): zAg prog 71 [enCn a,enCn b] (bl (zKP a b)):=by
 obtain⟨t,n,s⟩:=a
 obtain⟨t',n',s'⟩:=b
 refine zAr func71 rfl ntmps71 results71 rfl ?_
 intro wb St0
 unfold enCn
 cases t <;> cases t'
 all_goals
  dsimp only
  repeat' first|apply en_n|apply zAG|apply zAA|apply zAD|apply w0|(apply zZ8;exact rfl;exact rfl;with_reducible exact zYk)|(refine zV6 rfl rfl)|refine aBox (hd:=rfl) (hro:=rfl) rfl rfl ?_|apply ay (hd:=rfl)|exact zAB rfl|exact zEM rfl rfl|(apply zAC;exact rfl;(with_reducible first|exact zCc|exact zDn|exact zC4))|(apply zAE;exact rfl;(with_reducible first|exact zEP|exact zEO|exact zAb);exact rfl;exact rfl)|(apply zSl;exact rfl;all_goals intro hb)|refine zAI rfl ?_|refine zAJ rfl ?_|apply zAR|apply zAQ|apply en_r|apply zAT|refine res1 rfl ?_
  all_goals first|rfl|(exfalso;simp_all)|(apply zDR;simp[zKP])
theorem zSY(i:Ins): zAg prog 115 [enIn i] (bl (!zH1 i)):=by
 have hC:=zP1 i
 refine zAr func115 rfl ntmps115 results115 rfl ?_
 intro wb St0
 unfold insE at hC
 cases hi:zH1 i
 all_goals
  rw[hi]at hC
  unfold enIn at *
  skip
  repeat' first|apply en_n|apply zAG|apply zAA|apply zAD|apply w0|(refine zAd zNl hC (CoLA rfl))|refine aBox (hd:=rfl) (hro:=rfl) rfl rfl ?_|apply ay (hd:=rfl)|exact zAB rfl|exact zIX rfl rfl|exact zBA rfl zA8 rfl rfl rfl|apply zAQ|apply zAT|refine res1 rfl ?_
  all_goals rfl
def idxI{α:Type}(p:α->Bool)(L:List α): Int:=match L.findIdx? p with
 |some i=>i
 |none=>-1
theorem zOm{α:Type}{p:α->Bool}{L:List α}{i:Nat}{v:α}(h:∀(j:Nat) u,j<i->L[j]?=some u->p u=false)(hi:L[i]?=some v)(hv:p v=true): idxI p L=i:=by
 have:L.findIdx? p=some i:=by
  rw[List.findIdx?_eq_some_iff_getElem]
  obtain⟨h1,h2⟩:=qAA.1 hi
  refine⟨h1,by rw[h2];exact hv,fun j hj=>?_⟩
  rw[h j _ hj (qAB (by omega))];simp
 rw[idxI,this]
theorem zMS{α:Type}{p:α->Bool}{L:List α}(h:∀(j:Nat) u,L[j]?=some u->p u=false): idxI p L = -1:=by
 have:L.findIdx? p=none:=by
  rw[List.findIdx?_eq_none_iff]
  intro x hx
  obtain⟨j,hj⟩:=qA0.1 hx
  exact h j x hj
 rw[idxI,this]
theorem zPF{α:Type}{p:α->Bool}{L:List α}: (idxI p L>=0)↔L.any p=true:=by
 constructor
 ·intro h
  unfold idxI at h;split at h
  ·rename_i i hi
   obtain⟨h1,h2,_⟩:=List.findIdx?_eq_some_iff_getElem.1 hi
   exact List.any_eq_true.2 ⟨_,qBH h1,h2⟩
  ·omega
 ·intro h
  obtain⟨x,hx,hpx⟩:=List.any_eq_true.1 h
  unfold idxI;split
  ·omega
  ·rename_i hn;rw[List.findIdx?_eq_none_iff]at hn;rw[hn x hx]at hpx;cases hpx
theorem zIf{p:Prop}[Decidable p]{b:Bool}(h:p↔b=true): decide p=b:=by
 cases b <;> simp_all
theorem zYb(f:FuncId)(p:Ins->Bool)(hbf:zAO prog f=true)(hp:∀u,zAg prog f [enIn u] (bl (p u)))(E:List Ins)(hE:E.length<=2000000):
  zA6 prog 147 [.d (.slice (E.map enIn)),.clo f []] [] (i64 (idxI p E)):=by
 refine zCb func147 rfl ntmps147 results147 rfl ?_
 intro wb St0
 repeat' first|apply en_n|apply zAG|apply zAA|apply zAD|apply w0|apply ay (hd:=rfl)|exact zAF rfl|exact zAB rfl|exact zBD rfl zDk|apply zAK
 refine zBV (α:=Nat) (fun i=>i<=E.length/\∀(j:Nat) u,j<i->E[j]?=some u->p u=false) (fun i=>[(0,.d (.slice (E.map enIn))),(1,.clo f []),(7,.d (i64 (E.length:Int))),(8,.d (i64 (i:Int)))]) (fun _=>[]) (fun i=>E.length-i) 0 ⟨qAV _,fun j u h=>by omega⟩
  (zAS (Le_cons rfl (Le_cons rfl (Le_d rfl rfl (Le_all rfl)))) (zAs) rfl rfl) ?_
 rintro i ⟨hi1,hi2⟩
 repeat' first|apply en_n|apply zAG|apply zAA|apply zAD|apply w0|exact zAh rfl|(apply zSx (hb:=hbf) (hc:=hp v);exact rfl)|(apply aI (hd:=rfl);(first|exact zCQ rfl|exact zCp rfl rfl rfl|exact Co_nn rfl);exact rfl;(with_reducible exact zB3);exact fun _=>rfl;rotate_left;intro v hv;rotate_right)|apply ay (hd:=rfl)|exact zAF rfl|exact zAB rfl|exact zBK rfl zA8 rfl|exact zEM rfl rfl|refine zBG rfl rfl ?_|(apply zBa;exact rfl;all_goals intro hb)|(apply zE3;exact rfl;all_goals intro hb)|apply zAK|apply zAR|apply zAQ|apply zBX|apply en_r|apply en_e|apply eb_n|apply eb_r|apply eb_e|apply zAT|refine res1 rfl ?_|exact zAM|refine zAY rfl ?_
 ·omega
 ·exact zKk (zOm hi2 hv hb).symm
 ·omega
 ·refine⟨i+1,⟨by omega,fun j u hj hu=>?_⟩,by omega,zAS (Le_all rfl) (zAs) rfl rfl⟩
  rcases qAQ j i with h1|h1
  ·exact hi2 j u h1 hu
  ·have hv':E[i]?=some v:=hv
   rw[show j=i by omega,hv']at hu;injection hu with hu;subst hu;exact hb
 ·exact zKk (zMS fun j u hu=>hi2 j u (by have:=(qAA.1 hu).1;omega) hu).symm
theorem zYd(f:FuncId)(p:Ins->Bool)(hbf:zAO prog f=true)(hp:∀u,zAg prog f [enIn u] (bl (p u)))(E:List Ins)(hE:E.length<=2000000):
  zA6 prog 114 [.d (.slice (E.map enIn)),.clo f []] [] (bl (E.any p)):=by
 refine zCb func114 rfl ntmps114 results114 rfl ?_
 intro wb St0
 repeat' first|apply en_n|apply zAG|apply zAA|apply zAD|apply w0|exact zAh rfl|(refine zAX [] [] rfl rfl zDY (zYb f p hbf hp E hE) rfl (SArgs_all rfl) rfl (by decide) rfl rfl rfl rfl)|apply ay (hd:=rfl)|exact zAF rfl|exact zAB rfl|exact zH9 rfl rfl|apply zAQ|apply zAT|refine res1 rfl ?_
 refine zDR ?_
 exact zIf zPF
theorem zYa(f:FuncId)(c:D)(p:Ins->Bool)(hbf:zAO prog f=true)(hp:∀u,zA6 prog f [.d (enIn u),.ptr 0 0] [.box [.d c]] (bl (p u)))(E:List Ins)(hE:E.length<=2000000):
  zA6 prog 147 [.d (.slice (E.map enIn)),.clo f [0]] [.box [.d c]] (i64 (idxI p E)):=by
 refine zCb func147 rfl ntmps147 results147 rfl ?_
 intro wb St0
 repeat' first|apply en_n|apply zAG|apply zAA|apply zAD|apply w0|apply ay (hd:=rfl)|exact zAF rfl|exact zAB rfl|exact zBD rfl zDk|apply zAK
 refine zBV (α:=Nat) (fun i=>i<=E.length/\∀(j:Nat) u,j<i->E[j]?=some u->p u=false) (fun i=>[(0,.d (.slice (E.map enIn))),(1,.clo f [0]),(7,.d (i64 (E.length:Int))),(8,.d (i64 (i:Int)))]) (fun _=>[.box [.d c]]) (fun i=>E.length-i) 0 ⟨qAV _,fun j u h=>by omega⟩
  (zAS (Le_cons rfl (Le_cons rfl (Le_d rfl rfl (Le_all rfl)))) (zAN rfl rfl zAs) rfl rfl) ?_
 rintro i ⟨hi1,hi2⟩
 repeat' first|apply en_n|apply zAG|apply zAA|apply zAD|apply w0|exact zAh rfl|(refine zAX [0] [0] rfl rfl hbf (hp v) rfl (SArgs_all rfl) rfl (by decide) rfl rfl rfl rfl)|(apply aI (hd:=rfl);(first|exact zCQ rfl|exact zCp rfl rfl rfl|exact Co_nn rfl);exact rfl;(with_reducible exact zB3);exact fun _=>rfl;rotate_left;intro v hv;rotate_right)|apply ay (hd:=rfl)|exact zAF rfl|exact zAB rfl|exact zBK rfl zA8 rfl|exact zEM rfl rfl|refine zBG rfl rfl ?_|(apply zBa;exact rfl;all_goals intro hb)|(apply zE3;exact rfl;all_goals intro hb)|apply zAK|apply zAR|apply zAQ|apply zBX|apply en_r|apply en_e|apply eb_n|apply eb_r|apply eb_e|apply zAT|refine res1 rfl ?_
 ·omega
 ·exact zKk (zOm hi2 hv hb).symm
 ·omega
 ·refine⟨i+1,⟨by omega,fun j u hj hu=>?_⟩,by omega,zAS (Le_all rfl) (zAN rfl rfl zAs) rfl rfl⟩
  rcases qAQ j i with h1|h1
  ·exact hi2 j u h1 hu
  ·have hv':E[i]?=some v:=hv
   rw[show j=i by omega,hv']at hu;injection hu with hu;subst hu;exact hb
 ·exact zKk (zMS fun j u hu=>hi2 j u (by have:=(qAA.1 hu).1;omega) hu).symm
theorem zYc(f:FuncId)(c:D)(p:Ins->Bool)(hbf:zAO prog f=true)(hp:∀u,zA6 prog f [.d (enIn u),.ptr 0 0] [.box [.d c]] (bl (p u)))(E:List Ins)(hE:E.length<=2000000):
  zA6 prog 114 [.d (.slice (E.map enIn)),.clo f [0]] [.box [.d c]] (bl (E.any p)):=by
 refine zCb func114 rfl ntmps114 results114 rfl ?_
 intro wb St0
 repeat' first|apply en_n|apply zAG|apply zAA|apply zAD|apply w0|exact zAh rfl|(refine zAX [0] [] rfl rfl zDY (zYa f c p hbf hp E hE) rfl (SArgs_all rfl) rfl (by decide) rfl rfl rfl rfl)|apply ay (hd:=rfl)|exact zAF rfl|exact zAB rfl|exact zH9 rfl rfl|apply zAQ|apply zAT|refine res1 rfl ?_
 refine zDR ?_
 exact zIf zPF
theorem zSX(E:List Ins)(i:Ins): zA6 prog 117 [.d (enIn i),.ptr 0 0] [.box [.d (.slice (E.map enIn))]] (bl (zFz i.op&&decide (i.a>=(E.length:Int)))):=by
 have hC:=zSH i.op
 refine zCb func117 rfl ntmps117 results117 rfl ?_
 intro wb St0
 cases hi:zFz i.op
 all_goals
  rw[hi]at hC
  unfold enIn at *
  skip
  repeat' first|apply en_n|apply zAG|apply zAA|apply zAD|apply w0|refine k1u (hd:=rfl) rfl rfl ?_|(refine zAd zE9 hC (CoLA rfl))|refine aBox (hd:=rfl) (hro:=rfl) rfl rfl ?_|apply ay (hd:=rfl)|exact zAF rfl|exact zAB rfl|exact zBD rfl zDk|exact zH9 rfl rfl|exact zAZ rfl rfl|exact zAV rfl rfl|(apply zAC;exact rfl;(with_reducible first|exact zAv|exact zAl))|(apply zAE;exact rfl;(with_reducible first|exact zBg|exact zAa|exact zAP);exact rfl;exact rfl)|refine w1 rfl rfl ?_|apply zAQ|apply zAT|refine res1 rfl ?_
  all_goals (apply zDR;simp)
end Go.Proofs.YtcagoomibpcdlaaGreatDoor
