/- Parts. -/
import Derived.Test.YtjcgiiedaccjpaaGreatDoorMBN
import Derived.Test.YtjcgiiedaccjpaaGreatDoorMBR
import Derived.Test.YtjcgiiedaccjpaaGreatDoorMBT
set_option maxHeartbeats 16000000
namespace Go.Proofs.YtjcgiiedaccjpaaGreatDoor
open _root_.Go.Proofs.Tryz
open Go.Sx Go.Ev
def nmd1(T:List Dt)(n:Nd): Bool :=
 if n.kind≠4/\n.kind≠24 then true else match zD3 T n.text with
  |some (i,j)=>!decide (n.kind=24/\((zIH T i j).args.length:Int)≠n.kids)
  |none=>false
def zGf(T:List Dt)(t:Tr): Bool:=t.fl.all (nmd1 T) && !(zGa t).any fun s=>decide (¬pidx s<14)
def zNh(T:List Dt)(t:Tr): Int:=if chkT t false≠0 then chkT t false else if zP9 T≠0 then zP9 T else if zGf T t=false then 140 else 0
theorem zMg{T:List Dt}{s:List UInt8}{i j:Nat}(h:zD3 T s=some (i,j)): ∃d c,T[i]?=some d/\d.cons[j]?=some c:=by
 have key:∀(l:List Dt) (p:Nat->Nat->Bool) (b:Nat),zDr p b l=some (i,j)->b<=i/\∃d c,l[i-b]?=some d/\d.cons[j]?=some c:=by
  intro l
  induction l with
  |nil=>intro p b h;cases h
  |cons d l ih =>
   intro p b h
   unfold zDr at h
   split at h
   ·rename_i k hk
    injection h with h;injection h with h1 h2
    subst h1;subst h2
    refine⟨qAM _,d,d.cons[k]'?_,by rw[Nat.sub_self];rfl,qAB ?_⟩
    all_goals
     have hc:∀(n k0 k:Nat),zIF (p b) n k0=some k->k<k0+n:=by
      intro n
      induction n with
      |zero=>intro k0 k h;cases h
      |succ n ih =>
       intro k0 k h
       unfold zIF at h
       split at h
       ·injection h with h;omega
       ·have:=ih _ _ h;omega
     have:=hc _ _ _ hk
     omega
   ·obtain⟨h1,d',c,h2,h3⟩:=ih p (b+1) h
    exact⟨by omega,d',c,by rw[show i-b=(i-(b+1))+1 by omega,List.getElem?_cons_succ];exact h2,h3⟩
 obtain⟨_,d,c,h1,h2⟩:=key T _ 0 h
 exact⟨d,c,h1,h2⟩
attribute [local irreducible] zAK Program.underlying Ylds zA3 alex zBc zBL awp zAc zBd zBi zBD zBI zDI zBS zA5 zBT zBY zBe zBs zC7 zBN VCall
theorem zNj(s:List UInt8): zAc prog 77 [str s] (bl (decide (¬pidx s<14))):=by
 have hf:=zMf s
 refine zAX func77 rfl ntmps77 results77 rfl ?_
 intro wb St0
 repeat' first|apply en_n|apply zAE|apply zAA|apply zAD|apply w0|(refine zAU zPR hf (CoLA rfl))|(apply zBF (hd:=rfl) (hro:=rfl);(with_reducible exact zCO))|apply ay (hd:=rfl)|exact zAC rfl|exact zAB rfl|exact zBX rfl|exact zAe rfl rfl|(refine w0' ?_)|(apply zAl;exact rfl;exact rfl;exact rfl;(with_reducible exact zCF);exact rfl;exact rfl;exact rfl;exact rfl)|apply zAM|apply zAL|refine res1 rfl ?_
 exact zBo (by by_cases h:pidx s<14 <;> simp[h])
theorem zPx{T:List Dt}(hT:DtL T)(t:Tr)(hw:t.wf)(hL:t.fl.length<=1000000)(hfr:(zGa t).length<=2000000): zAc prog 31 [dts T,zAm t.fl] (bl (zGf T t)):=by
 have hF:=zUL t hw hL
 have hC:zAc prog 75 [strs (zGa t),.clo 77 []] (bl ((zGa t).any fun s=>decide (¬pidx s<14))):=zWL (fun u=>zG0 zPQ (zNj u)) (zGa t) hfr
 unfold zGf
 generalize (zGa t).any (fun s=>decide (¬pidx s<14))=q at *
 generalize zGa t=fr at *
 generalize t.fl=L at *
 have hTl:=hT.len
 refine zAX func31 rfl ntmps31 results31 rfl ?_
 intro wb St0
 repeat' first|apply en_n|apply zAE|apply zAA|apply zAD|apply w0|apply ay (hd:=rfl)|exact zAC rfl|exact zAB rfl|exact zAo rfl zA8|apply zAI
 refine zAv (α:=Nat) (fun i=>i<=L.length/\∀(j:Nat) v,j<i->L[j]?=some v->nmd1 T v=true) (fun i=>[(0,.d (dts T)),(1,.d (zAm L)),(10,.d (zAm L)),(11,.d (i64 (L.length:Int))),(12,.d (i64 (i:Int)))]) (fun _=>[]) (fun i=>L.length-i) 0 ⟨qAR _,fun j u h=>by omega⟩
  (zAV (Le_cons rfl (Le_cons rfl (Le_cons rfl (Le_d rfl rfl (Le_all rfl))))) zAW rfl rfl) ?_
 rintro i ⟨hi1,hi2⟩
 rcases qAI i L.length with hlt|hge
 ·obtain⟨v,hv⟩:∃v,L[i]?=some v:=⟨_,qAB hlt⟩
  have hvi:L[(i:Int).toNat]?=some v:=hv
  have hlt':(i:Int)<(L.length:Int):=by omega
  have hFd:=zLv v.text hT.len hT.cons
  have next:nmd1 T v=true->∀(j:Nat) u,j<i+1->L[j]?=some u->nmd1 T u=true:=fun hn j u hj hu=>by
   rcases qAI j i with h1|h1
   ·exact hi2 j u h1 hu
   ·rw[show j=i by omega,hv]at hu;injection hu with hu;subst hu;exact hn
  have bad:nmd1 T v=false->(L.all (nmd1 T) && !q)=false:=fun hn=>by
   have:L.all (nmd1 T)=false:=by
    refine Bool.eq_false_iff.2 fun h=>?_
    rw[qAF.1 h v (qAE hv)]at hn;cases hn
   rw[this];rfl
  by_cases h4:v.kind≠4/\v.kind≠24
  ·obtain⟨h4a,h4b⟩:=h4
   have hn:nmd1 T v=true:=by unfold nmd1;rw[if_pos ⟨h4a,h4b⟩]
   repeat' first|apply en_n|apply zAE|apply zAA|apply zAD|apply w0|exact zBh rfl rfl|exact zCz rfl rfl|(apply aJ (hd:=rfl);(first|exact zAq rfl|exact Co_bb rfl rfl rfl|exact Co_nn rfl);exact rfl;(with_reducible exact zAa);assumption;omega;exact fun _=>rfl)|(apply zBF (hd:=rfl) (hro:=rfl);(with_reducible exact zAx))|apply ay (hd:=rfl)|exact zAC rfl|exact zAg rfl zAZ rfl|refine zBE rfl rfl ?_|exact zAi rfl rfl|exact zAH rfl fn_0|exact zAJ rfl zAp rfl rfl|refine w1 rfl rfl ?_|(refine w0' ?_)|(apply zAl;exact rfl;exact rfl;exact rfl;(with_reducible exact zAZ);exact rfl;exact rfl;exact rfl;exact rfl)|refine zAN rfl ?_|apply zAI|apply zAO|apply zA0|apply en_e|apply eb_e
   all_goals first|omega|skip
   exact⟨i+1,⟨by omega,next hn⟩,by omega,zAV (Le_all rfl) zAW rfl rfl⟩
  ·cases hfd:zD3 T v.text with
   |none =>
    have hn:nmd1 T v=false:=by unfold nmd1;rw[if_neg h4,hfd]
    rw[hfd]at hFd
    replace hFd:zAc prog 48 [dts T,str v.text] (.tup [i64 0,i64 0,bl false]):=hFd
    have h5:v.kind=4\/v.kind=24:=by omega
    rcases h5 with h5|h5
    ·skip
     exact yC
    ·skip
     exact yC
   |some r =>
    obtain⟨a,b⟩:=r
    obtain⟨d,c,hd,hc⟩:=zMg hfd
    rw[hfd]at hFd
    replace hFd:zAc prog 48 [dts T,str v.text] (.tup [i64 (a:Int),i64 (b:Int),bl true]):=hFd
    have hd':T[(a:Int).toNat]?=some d:=hd
    have hc':d.cons[(b:Int).toNat]?=some c:=hc
    have hal:=(hT.args d (qAE hd) c (qAE hc)).1
    have hn:nmd1 T v = !decide (v.kind=24/\(c.args.length:Int)≠v.kids):=by unfold nmd1;rw[if_neg h4,hfd];show (!decide (_/\((zIH T a b).args.length:Int)≠_))=_;rw[zGD hd hc]
    by_cases h5:v.kind=24
    ·by_cases h6:(c.args.length:Int)=v.kids
     ·rw[decide_eq_false (fun h=>h.2 h6)]at hn
      exact yJ
     ·rw[decide_eq_true ⟨h5,h6⟩]at hn
      exact yC
    ·have h7:v.kind=4:=by omega
     rw[decide_eq_false (fun h=>h5 h.1)]at hn
     exact yJ
 ·have hge':¬(i:Int)<(L.length:Int):=by omega
  have hall:L.all (nmd1 T)=true:=qAF.2 fun v hv=>by
   obtain⟨j,hj⟩:=qA0.1 hv
   exact hi2 j v (by have:=(qAA.1 hj).1;omega) hj
  rw[hall]
  repeat' first|apply en_n|apply zAE|apply zAA|apply zAD|apply w0|exact zCT rfl rfl|(refine zAU zTe hF (CoLA rfl))|(refine zAU zUw hC (zAP rfl (zJj rfl zAF)))|apply ay (hd:=rfl)|exact zAC rfl|exact zAB rfl|exact zBX rfl|refine zAQ rfl ?_|apply zAM|apply zA0|apply en_e|apply eb_e|apply zAL|refine res1 rfl ?_
  all_goals exact zBo (by simp)
theorem zHw{T:List Dt}(hT:DtL T)(t:Tr)(hw:t.wf)(hL:t.fl.length<=1000000)(hfr:(zGa t).length<=2000000): zAc prog 12 [dts T,zAm t.fl] (i64 (zNh T t)):=by
 have hS:=zJy t hw hL
 have hD:=zQA hT
 have hN:=zPx hT t hw hL hfr
 unfold zNh
 generalize chkT t false=a at *
 generalize zP9 T=b at *
 generalize zGf T t=c at *
 generalize t.fl=L at *
 refine zAX func12 rfl ntmps12 results12 rfl ?_
 intro wb St0
 repeat' first|apply en_n|apply zAE|apply zAA|apply zAD|apply w0|(refine zAU zF5 hS (CoLA rfl))|(refine zAU zRZ hD (CoLA rfl))|(refine zAU zRV hN (CoLA rfl))|apply ay (hd:=rfl)|exact zAC rfl|exact zAB rfl|exact zGm rfl rfl|exact zBX rfl|(apply zAw;exact rfl;all_goals intro hb)|(apply zBw;exact rfl;all_goals intro hb)|apply zAO|apply zAM|apply en_r|apply zAL|refine res1 rfl ?_
 ·exact zCW (by rw[if_pos hb])
 ·rename_i h1
  exact zCW (by rw[if_neg h1,if_pos hb])
 ·rename_i h1 h2
  exact zCW (by rw[if_neg h1,if_neg h2,if_pos (by simpa using hb)])
 ·rename_i h1 h2
  exact zCW (by rw[if_neg h1,if_neg h2,if_neg (by simpa using hb)])
theorem zP1{T:List Dt}(L:List Nd)(hL:L.length<=1000000)(hw:zDJ L=false): zAc prog 12 [dts T,zAm L] (i64 60):=by
 have hS:=zOh L hL hw
 refine zAX func12 rfl ntmps12 results12 rfl ?_
 intro wb St0
 exact yR
end Go.Proofs.YtjcgiiedaccjpaaGreatDoor
namespace Go.Proofs.YtjcgiiedaccjpaaGreatDoor
open _root_.Go.Proofs.Tryz
open Go.Sx Go.Ev
theorem zLc{C:Ctx}{Q:Exit->Sl->List Ob->Prop}{σ:Sl}{η:List Ob}{id:Nat}{o:Array Oper}{dr:Bool}{c:Code}(h:Stop (awp C ((Code.region id o dr).seq c) Q σ η)): awp C ((Code.region id o dr).seq c) Q σ η:=by
 unfold Stop at h;exact h
def snS(s:Sn): D:=.agg [i64 s.fin,.slice (s.vals.map snD),i64 s.num,.slice (s.out.map str),i64 s.steps]
def sn0: Sn:=⟨0,[],0,[],0⟩
attribute [local irreducible] zAK Program.underlying Ylds zA3 alex zBc zBL awp zAc zBd zBi zBD zBI zDI zBS zA5 zBT zBY zBe zBs zC7 zBN VCall
theorem zJb(T:List Dt)(L:List Nd)(fuel e:Int)(he:e≠0)(hV:zAc prog 12 [dts T,zAm L] (i64 e)): zAc prog 8 [dts T,zAm L,i64 fuel] (.tup [snS sn0,i64 e]):=by
 refine zET func8 rfl ntmps8 results8 rfl ?_
 intro wb St0
 exact yR
