/- Parts. -/
import Derived.Test.YtjcgiiedaccjpaaGreatDoorMAM
set_option maxHeartbeats 16000000
namespace Go.Proofs.YtjcgiiedaccjpaaGreatDoor
open _root_.Go.Proofs.Tryz
open Go.Sx
attribute [local irreducible] zAK Program.underlying Ylds zA3 alex zBc zBL awp zAc zBd zBi zBD zBI zBS zA5 zBT zBY zBe zBs zBN VCall
theorem zLi(n:Nd)(u:Dt): zAc prog 70 [u.av,.ref n.av.flat] (bl (decide (u.name=n.text/\u.params=n.kids))):=by
 refine zAX func70 rfl ntmps70 results70 rfl ?_
 intro wb St0
 repeat' first|(apply ay (hd:=rfl);apply zCk;exact rfl;exact rfl)|apply en_n|apply zAE|apply zAA|apply zAD|apply w0|refine k1u (hd:=rfl) rfl rfl ?_|exact zLt rfl rfl|(apply zDB;exact rfl;(with_reducible first|exact zE8|exact zHt|exact fn_1|exact fn_3))|apply ay (hd:=rfl)|exact zAC rfl|exact zAB rfl|(apply zAR;exact rfl;(with_reducible first|exact zAd|exact zAr))|exact zEA rfl rfl|exact zAi rfl rfl|exact zAj rfl rfl|refine w1 rfl rfl ?_|(apply gD;exact rfl;exact rfl;all_goals intro hb)|apply zAM|apply zAL|refine res1 rfl ?_
 ·exact zBo (by rw[decide_eq_decide];exact⟨fun h=>⟨hb,h⟩,fun h=>h.2⟩)
 ·exact zBo (by symm;rw[decide_eq_false_iff_not];exact fun h=>hb h.1)
abbrev zNN(l:List Dt): D:=.clo 68 [.ref [dts l]]
theorem zNq(l:List Dt)(hl:l.length<=2000000)(n:Nd): zAc prog 68 [n.av,.ref [dts l]] (bl (zNM l n)):=by
 have hF:zAc prog 61 [dts l,.clo 70 [.ref n.av.flat]] (bl (zO9 l n)):=zWO (fun u=>zG0 zNY (zLi n u)) l hl
 refine zAX func68 rfl ntmps68 results68 rfl ?_
 intro wb St0
 unfold zNM
 generalize zO9 l n=q at *
 repeat' first|(apply ay (hd:=rfl);apply zCk;exact rfl;exact rfl)|apply en_n|apply zAE|apply zAA|apply zAD|apply w0|refine k0u (hd:=rfl) rfl rfl ?_|(refine zFB (zAP rfl zAF))|(apply zDB;exact rfl;(with_reducible first|exact fn_0|exact fn_1))|exact zCm rfl zE7|(refine zAU zJI (zHx _) (CoLA rfl))|(refine zAU zSc hF (CoLA rfl))|apply ay (hd:=rfl)|exact zAC rfl|exact zAB rfl|(apply zAR;exact rfl;(with_reducible first|exact zAp|exact zAr))|exact zGm rfl rfl|exact zBX rfl|exact zAi rfl rfl|exact zAj rfl rfl|refine w1 rfl rfl ?_|(apply gD;exact rfl;exact rfl;all_goals intro hb)|refine zAN rfl ?_|(apply zBw;exact rfl;all_goals intro hb)|apply zAO|apply zAM|apply en_r|apply zAL|refine res1 rfl ?_
 ·exact zBo (by rw[decide_eq_false hb];rfl)
 ·exact zBo (by rw[show conF n.text=false by simpa using hb];simp)
 ·rename_i h1
  exact zBo (by rw[decide_eq_true (by omega),show conF n.text=true by simpa using hb];rfl)
theorem zLh(l:List Dt)(hl:l.length<=2000000)(t:List Nd)(ht:t.length<=2000000): zAc prog 73 [zAm t,.ref [zNN l]] (bl (t.any (zNM l))):=by
 have hF:zAc prog 74 [zAm t,zNN l] (bl (t.any (zNM l))):=zWM (fun u=>zG0 zPV (zNq l hl u)) t ht
 refine zAX func73 rfl ntmps73 results73 rfl ?_
 intro wb St0
 exact yW
theorem zGD{l:List Dt}{i k:Nat}{d:Dt}{c:Ct}(hd:l[i]?=some d)(hc:d.cons[k]?=some c): zIH l i k=c:=by
 unfold zIH
 rw[qAQ,qAQ,hd,qBP,hc,qBP]
theorem zNp(l:List Dt)(hl:l.length<=2000000){i k:Nat}{d:Dt}{c:Ct}(hd:l[i]?=some d)(hc:d.cons[k]?=some c)(_hk:d.cons.length<=2000000)(ha:c.args.length<=2000000/\∀t∈c.args,t.length<=2000000):
  zAc prog 71 [i64 (i:Int),i64 (k:Int),.ref [dts l],.ref [zNN l]] (bl (zGt l i k)):=by
 have hF:zAc prog 72 [zCG c.args,.clo 73 [.ref [zNN l]]] (bl (c.args.any fun t=>t.any (zNM l))) :=
  zQn (fun t ht=>zG0 zNX (zLh l hl t (ha.2 t ht))) ha.1
 unfold zGt
 rw[zGD hd hc]
 have hi:=(qAA.1 hd).1
 have hj:=(qAA.1 hc).1
 have hd':l[(i:Int).toNat]?=some d:=hd
 have hc':d.cons[(k:Int).toNat]?=some c:=hc
 refine zAX func71 rfl ntmps71 results71 rfl ?_
 intro wb St0
 exact yU
