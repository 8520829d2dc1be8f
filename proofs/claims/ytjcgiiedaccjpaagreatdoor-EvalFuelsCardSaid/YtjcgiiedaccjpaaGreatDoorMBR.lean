/- Parts. -/
import Derived.Test.YtjcgiiedaccjpaaGreatDoorMBP
import Derived.Test.YtjcgiiedaccjpaaGreatDoorMBQ
set_option maxHeartbeats 16000000
namespace Go.Proofs.YtjcgiiedaccjpaaGreatDoor
open _root_.Go.Proofs.Tryz
open Go.Sx
attribute [local irreducible] zAK Program.underlying Ylds zA3 alex zBc zBL awp zAc zBd zBi zBD zBI zBS zA5 zBT zBY zBe zBs zBN VCall
theorem zPg(L:List Nd)(hL:L.length<=2000000): ∀m,zGy L m
 |0=>fun n t S F b hm=>by have:=zFs t;omega
 |m+1=>fun n t S F b hm h hw hS hb hb2 hF=>by
  have ih:=zPg L hL m
  match t,hm,h,hw,hb2,hF with
  | .mk x ks,hm,h,hw,hb2,hF =>
   have h3:=(zDY (zHN hw).1).1
   have h4:=(zDY (zHN hw).1).2.1
   have hk:(1<=x.kind/\x.kind<=12):=by
    have h5:(1<=x.kind/\x.kind<=12)\/(21<=x.kind/\x.kind<=24):=by simpa[okK]using h3
    have h6:¬(21<=x.kind/\x.kind<=24):=by simpa[patK]using h4
    omega
   have hc:(x.kind=1\/x.kind=2\/x.kind=4)\/x.kind=3\/x.kind=5\/(x.kind=6\/x.kind=9\/x.kind=11)\/(x.kind=7\/x.kind=12)\/x.kind=8\/x.kind=10:=by omega
   rcases hc with hc|hc|hc|hc|hc|hc|hc
   ·exact zPi hL ih n x ks S F b hc hm h hw hS hb hb2 hF
   ·exact zPh hL ih n x ks S F b hc hm h hw hS hb hb2 hF
   ·exact zTk hL ih n x ks S F b hc hm h hw hS hb hb2 hF
   ·exact zPj hL ih n x ks S F b hc hm h hw hS hb hb2 hF
   ·exact zRd hL ih n x ks S F b hc hm h hw hS hb hb2 hF
   ·exact zRc hL ih n x ks S F b hc hm h hw hS hb hb2 hF
   ·exact zNd hL ih n x ks S F b hc hm h hw hS hb hb2 hF
def zGa(t:Tr): List (List UInt8):=if chkT t false=0 then t.free [] []else[]
theorem zUL(t:Tr)(hw:t.wf)(hL:t.fl.length<=1000000): zAc prog 76 [zAm t.fl] (strs (zGa t)):=by
 have hc:=zJy t hw hL
 refine zAX func76 rfl ntmps76 results76 rfl ?_
 intro wb St0
 by_cases h0:chkT t false=0
 ·have hch:=h0
  rw[zGa,if_pos h0]
  rw[h0]at hc
  have h1:¬(4000<t.sz\/100<zIG t.fl):=fun c=>by rw[chkT,if_pos c]at h0;omega
  have h2:t.werr false=0:=by
   rw[chkT,if_neg h1]at h0
   by_cases hq:t.werr false=0
   ·exact hq
   ·rw[if_pos hq]at h0;exact absurd h0 hq
  have hf:=zPg t.fl (by omega) t.sz 0 t [] [] 0 (qAM _) (.top hw) h2 .nil (fun a=>qAM _) (by omega) (by simp;omega)
  rw[qAU]at hf
  generalize t.free [] []=F at *
  clear h1 h2 hch
  skip
  exact yQ
 ·rw[zGa,if_neg h0]
  exact yU
