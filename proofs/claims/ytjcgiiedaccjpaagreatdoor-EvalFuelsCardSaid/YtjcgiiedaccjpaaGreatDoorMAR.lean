/- Parts. -/
import Derived.Test.YtjcgiiedaccjpaaGreatDoorMAQ
set_option maxHeartbeats 16000000
namespace Go.Proofs.YtjcgiiedaccjpaaGreatDoor
open _root_.Go.Proofs.Tryz
open Go.Sx Go.Ev
attribute [local irreducible] zAK Program.underlying Ylds zA3 alex zBc zBL awp zAc zBd zBi zBD zBI zBS zA5 zBT zBY zBe zBs zBN VCall
theorem zFc(s:List UInt8)(f:FuncId): zAc prog 86 [str s,.clo f []] (.agg [str s,i64 2,zJB f]):=by
 refine zET func86 rfl ntmps86 results86 rfl ?_
 intro wb St0
 exact yR
abbrev bisD: D:=bis (List.range 14)
theorem zH5: zAc prog 36 [] bisD:=by
 refine zAX func36 rfl ntmps36 results36 rfl ?_
 intro wb St0
 repeat' first|apply en_n|apply zAE|apply zAA|apply zAD|apply w0|(refine zAU zFf (zFc addT 87) (zAP rfl (zJj rfl zAF)))|(refine zAU zFf (zFc subT 89) (zAP rfl (zJj rfl zAF)))|(refine zAU zFf (zFc mulT 91) (zAP rfl (zJj rfl zAF)))|(refine zAU zFf (zFc divT 93) (zAP rfl (zJj rfl zAF)))|(refine zAU zFf (zFc modT 96) (zAP rfl (zJj rfl zAF)))|(refine zAU zFf (zFc eqT 98) (zAP rfl (zJj rfl zAF)))|(refine zAU zFf (zFc ltT 100) (zAP rfl (zJj rfl zAF)))|(refine zAf (cs:=[str catT,i64 2,.clo 101 []]) zDq zCO (PD_d rfl rfl (PD_d rfl rfl (PD_c rfl zA6))) rfl)|(refine zAf (cs:=[str lenT,i64 1,.clo 102 []]) zDq zCO (PD_d rfl rfl (PD_d rfl rfl (PD_c rfl zA6))) rfl)|(refine zAf (cs:=[str refT,i64 1,.clo 103 []]) zDq zCO (PD_d rfl rfl (PD_d rfl rfl (PD_c rfl zA6))) rfl)|(refine zAf (cs:=[str getT,i64 1,.clo 104 []]) zDq zCO (PD_d rfl rfl (PD_d rfl rfl (PD_c rfl zA6))) rfl)|(refine zAf (cs:=[str setT,i64 2,.clo 105 []]) zDq zCO (PD_d rfl rfl (PD_d rfl rfl (PD_c rfl zA6))) rfl)|(refine zAf (cs:=[str putT,i64 1,.clo 106 []]) zDq zCO (PD_d rfl rfl (PD_d rfl rfl (PD_c rfl zA6))) rfl)|(refine zAf (cs:=[str sayT,i64 1,.clo 108 []]) zDq zCO (PD_d rfl rfl (PD_d rfl rfl (PD_c rfl zA6))) rfl)|(refine zSO (n:=14) (xs:=[.tmp 1,.tmp 2,.tmp 3,.tmp 4,.tmp 5,.tmp 6,.tmp 7,.tmp 8,.tmp 9,.tmp 10,.tmp 11,.tmp 12,.tmp 13,.tmp 14]) (ds:=(List.range 14).map biD) zPu zFP zRl rfl rfl rfl rfl (zAP rfl (zAP rfl (zAP rfl (zAP rfl (zAP rfl (zAP rfl (zAP rfl (zAP rfl (zAP rfl (zAP rfl (zAP rfl (zAP rfl (zAP rfl (zAP rfl zAF)))))))))))))) (zC8 fun _=>rfl) rfl)|apply ay (hd:=rfl)|exact zAB rfl|exact zA4 rfl|apply zAM|apply zAL|refine res1 rfl ?_
 rfl
theorem zRf(s:List UInt8)(p:Nat): zAc prog 145 [biD p,.ref [str s]] (bl (decide (zES p=s))):=by
 refine zAX func145 rfl ntmps145 results145 rfl ?_
 intro wb St0
 exact yU
theorem zOs(s:List UInt8): idxP (fun p=>decide (zES p=s)) (List.range 14)=if pidx s<14 then(pidx s:Int)else -1:=by
 unfold idxP pidx
 generalize hq:List.findIdx? (fun p=>decide (zES p=s)) (List.range 14)=r
 cases r with
 |some i =>
  have:=(List.findIdx?_eq_some_iff_getElem.1 hq).1
  rw[qA2]at this
  exact(if_pos this).symm
 |none=>rfl
theorem zOr(s:List UInt8): pidx s<=14:=by
 unfold pidx
 split
 ·rename_i i hi
  have:=(List.findIdx?_eq_some_iff_getElem.1 hi).1
  rw[qA2]at this;omega
 ·exact qAM _
theorem zMf(s:List UInt8): zAc prog 78 [str s] (.tup [biD (pidx s),bl (decide (pidx s<14))]):=by
 have hF:zAc prog 144 [bisD,.clo 145 [.ref [str s]]] (i64 (idxP (fun p=>decide (zES p=s)) (List.range 14))) :=
  zWK (fun u=>zG0 zRW (zRf s u)) (List.range 14) (by decide)
 rw[zOs]at hF
 have hB:=zH5
 have h14:=zOr s
 have hget:∀h:pidx s<14,(List.range 14)[((pidx s:Nat):Int).toNat]?=some (pidx s):=fun h=>by
  rw[qAc,List.getElem?_range h]
 generalize pidx s=q at *
 by_cases hq:q<14
 ·rw[if_pos hq]at hF
  rw[decide_eq_true hq]
  have hg:=hget hq
  have hn:¬(q:Int)<0:=by omega
  refine zET func78 rfl ntmps78 results78 rfl ?_
  intro wb St0
  unfold bisD bis at *
  exact yN
 ·rw[if_neg hq]at hF
  have:q=14:=by omega
  subst this
  refine zET func78 rfl ntmps78 results78 rfl ?_
  intro wb St0
  exact yN
end Go.Proofs.YtjcgiiedaccjpaaGreatDoor
namespace Go.Proofs.YtjcgiiedaccjpaaGreatDoor
open _root_.Go.Proofs.Tryz
open Go.Sx Go.Ev
structure Rn where
 L:List Nd
 T:List Dt
 fuel:Nat
abbrev Rn.MB(R:Rn)(s:S): List Ob:=YtjcgiiedaccjpaaGreatDoor.MB R.L R.T R.fuel s
abbrev Rn.MA(R:Rn)(fx:Nat->Option Nat)(s:S)(bs:List Nat): List Ob :=
 [.bx (fx 0) none [.d (zAm R.L),.d (dts R.T),.d (i64 (R.fuel:Int)),.d (i64 (s.steps:Int)),.buf 1 s.out.length,.d (i64 s.fin),.d (i64 s.raised)],
  .buf true 9 1 (s.out.map str)]++hidL (zA2 bs s.cells)
def Eok(bs:List Nat)(s':S)(y:List Nat): Prop:=bs <+: y/\y.length=s'.cells.length
def Rn.To(R:Rn)(f:FuncId)(avs:List SV)(s:S)(bs:List Nat)(s':S)(dv:List Nat->D): Prop :=
 zDI prog f avs (R.MB s) (zA2 bs s.cells) (Eok bs s') (fun y=>.d (dv y)) (fun _=>R.MB s') (fun y=>zA2 y s'.cells)
theorem Rn.MA_bel(R:Rn)(fx:Nat->Option Nat)(s:S)(bs:List Nat): (R.MA fx s bs).all (Ob.below (R.MA fx s bs).length)=true:=by
 unfold Rn.MA
 rw[qBT,qAP]
 refine⟨qAF.2 fun p hp=>zCy (m:=2) (by simp) ?_,qAF.2 fun p hp=>zCy (qAR _) (zAh _ p hp).bel⟩
 have h:([.bx (fx 0) none [.d (zAm R.L),.d (dts R.T),.d (i64 (R.fuel:Int)),.d (i64 (s.steps:Int)),.buf 1 s.out.length,.d (i64 s.fin),.d (i64 s.raised)],.buf true 9 1 (s.out.map str)]:List Ob).all (Ob.below 2)=true:=rfl
 exact qAF.1 h p hp
theorem zQh: ∀(h:List Ob) (r:List Ob),Pre h (h++r)
 |[],_=>trivial
 |_::h,r=>⟨fun _ _ _ h=>h,zQh h r⟩
theorem Rn.to_of{R:Rn}{f:FuncId}{fn:Func}{c:Code}{avs:List SV}{s s':S}{bs:List Nat}{dv:List Nat->D}{N:Nat}{rs:Array ResultVar}(hbs:bs.length=s.cells.length)(hf:prog.funcs[f]?=some fn)(hb:fn.body=some c)(hN:fn.ntmps=N)(hrs:fn.results=rs)(hl:Nat.ble avs.length N=true)
  (h:∀(w0:World) (St0:Stab) (X:Nat->Prop) (fx:Nat->Option Nat),awp ⟨prog,N,w0,St0,X,0⟩ c (zC7 rs (Eok bs s') (fun y=>.d (dv y)) fun y=>R.MA fx s' y) (zJx avs 0) (R.MA fx s bs)):R.To f avs s bs s' dv :=
 zRu hf hb hN hrs hl (fun _ hy=>⟨rfl,rfl,zAb hy.1 hbs hy.2⟩) h
theorem Rn.ret{R:Rn}{s':S}{bs y:List Nat}{dv:List Nat->D}{fx:Nat->Option Nat}{σ:Sl}{η own:List Ob}{k:Nat}(hy:Eok bs s' y)(hs:get σ k=.d (dv y))(he:η=R.MA fx s' y++own): zC7 #[.tmp k] (Eok bs s') (fun y=>.d (dv y)) (fun y=>R.MA fx s' y) .ret σ η:=by
 subst he
 exact zPv y hy (zAV (Le_cons hs Le_nil) (zQh _ _) rfl (R.MA_bel fx s' y))
theorem Rn.ret0{R:Rn}{s':S}{bs y:List Nat}{dv:List Nat->D}{fx:Nat->Option Nat}{σ:Sl}{η:List Ob}{k:Nat}(hy:Eok bs s' y)(hs:get σ k=.d (dv y))(he:η=R.MA fx s' y): zC7 #[.tmp k] (Eok bs s') (fun y=>.d (dv y)) (fun y=>R.MA fx s' y) .ret σ η :=
 Rn.ret (own:=[]) hy hs (by rw[he,qBG])
theorem zBC{C:Ctx}{Q:Exit->Sl->List Ob->Prop}{σ:Sl}{η:List Ob}{s:SV}(k m p:Nat){H:List (Nat×D)}(hη:η.drop (m+p)=hidL H)(hm:(η.take m).length=m)(hs:get σ k=s)(hb:s.bel m=true)(hv:(η.take m).all (Ob.below m)=true)(hA:((η.drop m).take p).all (Ob.below m)=true)(hro:Nat.ble C.ro m=true)
  (h:Q .ret [(k,s)] (η.take m++(hidL H++(η.drop m).take p))):awp C .ret Q σ η:=by
 refine zVE (σ':=[(k,s)]) (Le_cons hs Le_nil) ?_
 refine zT9 H m p hη hm (by show (s.bel m&&true)=true;rw[hb];rfl) hv hA hro ?_
 exact zAM h
theorem Rn.retO{R:Rn}{s':S}{bs y:List Nat}{dv:List Nat->D}{fx:Nat->Option Nat}{σ:Sl}{η own:List Ob}{k:Nat}{H:List (Nat×D)}(hy:Eok bs s' y)(hs:get σ k=.d (dv y))(h2:η.take 2=(R.MA fx s' y).take 2)(hH:H=zA2 y s'.cells): zC7 #[.tmp k] (Eok bs s') (fun y=>.d (dv y)) (fun y=>R.MA fx s' y) .ret σ (η.take 2++(hidL H++own)):=by
 subst hH
 refine Rn.ret (own:=own) hy hs ?_
 rw[h2];rfl
def tyV: V->TypeId
 | .num _=>101
 | .text _=>106
 | .con _ _ _=>108
 | .prim _ _=>165
 | .fn _ _ _ _=>112
 | .cell _=>155
theorem zCR(bs:List Nat)(v:V): ∃d,encV bs v=.ifc (tyV v) d:=by cases v <;> exact⟨_,rfl⟩
theorem zFq{v:V}(h:∀n,v≠.num n): Nat.beq (tyV v) 101=false:=by cases v <;> first|rfl|exact absurd rfl (h _)
theorem zHQ{v:V}(h:∀n,v≠.text n): Nat.beq (tyV v) 106=false:=by cases v <;> first|rfl|exact absurd rfl (h _)
theorem zOO{v:V}(h:∀n,v≠.cell n): Nat.beq (tyV v) 155=false:=by cases v <;> first|rfl|exact absurd rfl (h _)
attribute [local irreducible] zAK Program.underlying Ylds zA3 alex zBc zBL awp zAc zBd zBi zBD zBI zDI zBS zA5 zBT zBY zBe zBs zC7 zBN VCall
theorem zEF(R:Rn)(s:S)(bs:List Nat)(hbs:bs.length=s.cells.length)(e:Int): R.To 45 [.ptr 0 0,.d (i64 e)] s bs (s.stop e).2 (fun _=>encV [] (.num 0)):=by
 refine Rn.to_of hbs func45 rfl ntmps45 results45 rfl ?_
 intro wb St0 X fx
 repeat' first|apply en_n|apply zAE|apply zAA|apply zAD|apply w0|exact zAS rfl|(refine zAf (cs:=[i64 0]) zCw zBR zA6 rfl)|(apply zCY;exact rfl;with_reducible exact zBq)|apply ay (hd:=rfl)|exact zAC rfl|exact zAB rfl|exact zAG rfl|exact zAH rfl zAy|(refine w0' ?_)|(apply zAl;exact rfl;exact rfl;exact rfl;(with_reducible exact zAz);exact rfl;exact rfl;exact rfl;exact rfl)|apply zAM
 exact Rn.ret0 (y:=bs) ⟨qAe,hbs⟩ rfl rfl
theorem zI3(R:Rn)(s:S)(bs:List Nat)(hbs:bs.length=s.cells.length)(n:Int): R.To 50 [.ptr 0 0,.d (i64 n)] s bs (s.raise n).2 (fun _=>encV [] (.num 0)):=by
 have hs:=zEF R { s with raised:=n } bs hbs 2
 refine Rn.to_of hbs func50 rfl ntmps50 results50 rfl ?_
 intro wb St0 X fx
 repeat' first|apply en_n|apply zAE|apply zAA|apply zAD|apply w0|exact zAS rfl|(refine zBQ 2 [0,1] zCo (hs) rfl rfl rfl rfl (SArgs_all rfl) rfl rfl (by decide) rfl rfl rfl rfl rfl rfl rfl (fun y0 hy0=>⟨rfl,rfl,rfl,zAb hy0.1 hbs hy0.2⟩) (fun y hy=>?_))|apply ay (hd:=rfl)|exact zAC rfl|exact zAB rfl|exact zAG rfl|exact zAH rfl zHs|(refine w0' ?_)|(apply zAl;exact rfl;exact rfl;exact rfl;(with_reducible exact zCn);exact rfl;exact rfl;exact rfl;exact rfl)|apply zAM
 exact Rn.ret0 hy rfl rfl
