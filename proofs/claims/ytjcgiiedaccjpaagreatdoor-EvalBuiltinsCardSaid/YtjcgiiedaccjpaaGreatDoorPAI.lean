/- Parts. -/
import Derived.Test.YtjcgiiedaccjpaaGreatDoorPAE
import Derived.Test.YtjcgiiedaccjpaaGreatDoorPAH
set_option maxHeartbeats 16000000
namespace Go.Proofs.YtjcgiiedaccjpaaGreatDoor
open _root_.Go.Proofs.Tryz
open Go.Sx
attribute [local irreducible] zAQ Program.underlying Ylds zBJ alex zBk zBZ awp zAX FCall zBo zBR zBX zBb zBD zBd zBj zBn zBu
def zOG(p:UInt8->Bool)(s:List UInt8): Bool:=allF zG0 s&&p (s.getD 0 0) && !zSS s
def zEs(t:Tk): Bool :=
 if t.pos<0 then false
 else if t.kind=1 then decide (t.num=0)&&zOG zGS t.text
 else if t.kind=2 then decide (t.num=0)&&zOG zGT t.text
 else if t.kind=3 then decide (t.text=[])&&decide (W t.num=t.num)
 else if t.kind=4 then decide (t.num=0)&&decide (t.text.length<=200)
 else if t.kind=5 then decide (t.num=0)&&allF zFV t.text && !zSS t.text
 else if t.kind=6 then decide (t.num=0)&&zSS t.text
 else false
theorem zUc(c:UInt8)(h:c.toNat>126): zG0 c=false:=by
 simp only[zG0,zGS,zGT,zH3,zbE,<-Bool.decide_or,show ((95:UInt8).toNat:Int)=95 from rfl,show ((39:UInt8).toNat:Int)=39 from rfl]
 rw[decide_eq_false_iff_not];omega
theorem zWk(c:UInt8)(h:c.toNat>126): zFV c=false:=by
 refine zNt fun j hj e=>?_
 subst e
 have:∀k,k<16->(signL.getD k 0).toNat<=126:=by decide
 have:=this j hj
 omega
theorem zYI{p:UInt8->Bool}{s:List UInt8}(h:allF p s=true): 0<s.length:=by
 cases s with
 |nil=>simp[allF]at h
 |cons=>simp
abbrev Tk.cells(t:Tk): List SV:=[.d (i64 t.kind),.d (str t.text),.d (i64 t.num),.d (i64 t.pos)]
theorem zPK(t:Tk)(f:FuncId)(p:UInt8->Bool)(hb:zAQ prog f=true)(hp:∀c,zAX prog f [u8 c] (bl (p c))):
  zBX prog 152 [.clo f [],.ptr 0 0] [.box t.cells] (bl (zOG p t.text)):=by
 have hbf:=hb;clear hb
 refine zDS func152 rfl ntmps152 results152 rfl ?_
 intro wb St0
 repeat' first|apply en_n|apply zAE|apply zAA|apply zAD|apply w0|refine k1u (hd:=rfl) rfl rfl ?_|(apply zWG (hb:=hbf) (hc:=hp (t.text.getD 0 0));exact rfl)|exact qcA [] [] zYl (zY2 _ zG0 zXS zXK zUc t.text)|(apply zAP (hb:=zYm) (hc:=zZD t.text))|refine ayA rfl ?_|apply ay (hd:=rfl)|refine w1 rfl rfl ?_|(apply g1;exact rfl;exact rfl;all_goals intro hb)|apply zAN|apply zAO|refine res1 rfl ?_|exact zAF|refine zAL rfl ?_
 ·have:=zYI hb
  exact zNS (i:=0) rfl rfl (by with_reducible exact ustr) ⟨by omega,by omega⟩
 all_goals exact zCX (by simp only[zOG, *];first|rfl|simp)
theorem zI4(t:Tk): zAX prog 109 [t.av] (bl (zEs t)):=by
 refine zAc func109 rfl ntmps109 results109 rfl ?_
 intro wb St0
 repeat' first|apply en_n|apply zAE|apply zAA|apply zAD|apply w0|refine kU (hd:=rfl) rfl rfl ?_|refine k1u (hd:=rfl) rfl rfl ?_|refine k0u (hd:=rfl) rfl rfl ?_|(apply zDK;exact rfl;with_reducible exact ustr)|exact zFL rfl rfl|exact qcA [0] [0] zOX (zPK t _ zGS zRD zQl)|exact qcA [0] [0] zOX (zPK t _ zGT zRF zRK)|exact qcA [] [] zYl (zY2 _ zFV zZ9 zZg zWk t.text)|(apply zAP (hb:=zYm) (hc:=zZD t.text))|exact ycA zGF (zF7 t.num)|refine aBoA ?_|refine ayA rfl ?_|apply ay (hd:=rfl)|exact zCt rfl rfl|exact zI3 rfl rfl|exact zDz rfl rfl|exact zEp rfl rfl|exact zFM rfl|exact zQI rfl|refine w1 rfl rfl ?_|(apply gD;exact rfl;exact rfl;all_goals intro hb)|(apply g1;exact rfl;exact rfl;all_goals intro hb)|(apply zA3;exact rfl;all_goals intro hb)|refine zAJ rfl ?_|refine zAK rfl ?_|apply zAH|apply zAM|apply zAN|refine awDA ?_|apply en_r|apply eb_n|apply eb_r|apply zAO|refine res1 rfl ?_|exact zAF|refine zAL rfl ?_
 all_goals exact zCX (by simp_all [zEs] <;> (rw[show decide (t.pos<0)=false from decide_eq_false oM,Bool.not_false,qA5,decide_eq_decide];omega))
