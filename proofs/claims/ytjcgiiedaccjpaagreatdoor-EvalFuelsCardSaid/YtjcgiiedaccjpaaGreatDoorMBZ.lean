/- Parts. -/
import Derived.Test.YtjcgiiedaccjpaaGreatDoorMBY
set_option maxHeartbeats 16000000
namespace Go.Proofs.YtjcgiiedaccjpaaGreatDoor
open _root_.Go.Proofs.Tryz
open Go.Sx Go.Ev
attribute [local irreducible] zAK Program.underlying Ylds zA3 alex zBc zBL awp zAc zBd zBi zBD zBI zDI zBS zA5 zBT zBY zBe zBs zC7 zBN VCall
theorem zPy(l:List Dt)(e:List Nd)(f k:Int): zAc prog 4 [dts l,zAm e,i64 f,i64 k] (bl true):=by
 have hA:=zPz
 have hF:=zTl l e f
 refine zAX func4 rfl ntmps4 results4 rfl ?_
 intro wb St0
 cases hfw:fewE l e f
 ·rw[hfw]at hF
  clear hfw
  skip
  exact yR
 rw[hfw]at hF
 obtain⟨hT,hl,he,hf⟩:=zPk hfw
 clear hfw
 by_cases hf0:f<0
 ·skip
  exact yR
 by_cases hk0:k<0
 ·skip
  exact yR
 by_cases hk2:k>2000
 ·skip
  exact yM
 have hD:=zRy l (by omega)
 have hO:=zUh e (by omega)
 obtain⟨c,hC,hr⟩:=zT1 l hT e he
 obtain⟨F,rfl⟩:∃n:Nat,f=n:=⟨f.toNat,by omega⟩
 obtain⟨j,rfl⟩:∃n:Nat,k=n:=⟨k.toNat,by omega⟩
 by_cases hc:c=0
 ·subst hc
  have hrun:=hr rfl
  have hR1:=zJa (hrun.ok F (by omega)).1 (hrun.ok F (by omega)).2 hC
  have hR2:=zJa (hrun.ok (F+j) (by omega)).1 (hrun.ok (F+j) (by omega)).2 hC
  have o1:=zMI hrun F (by omega)
  have o2:=zMI hrun (F+j) (by omega)
  have v1:=zOc shwW (⟨e,l,F⟩:Rn).pg
  have hp:=zLX (shw:=shwW) (⟨e,l,0⟩:Rn).pg F j
  rw[show ((⟨e,l,0⟩:Rn).pg.fuelOf F)=(⟨e,l,F⟩:Rn).pg from rfl,show ((⟨e,l,0⟩:Rn).pg.fuelOf (F+j))=(⟨e,l,F+j⟩:Rn).pg from rfl]at hp
  clear hrun hr hT hC
  dsimp only at hR1 hR2
  rw[Int.natCast_add]at hR2
  generalize Go.Ev.seen shwW (⟨e,l,F⟩:Rn).pg=s1 at *
  generalize Go.Ev.seen shwW (⟨e,l,F+j⟩:Rn).pg=s2 at *
  by_cases h3:s1.fin=3
  ·obtain⟨ht,hpre,hv⟩:=hp.2 h3
   have hol:=hpre.length_le
   have hP:=zKc (s2.out.take s1.out.length) s1.out (by rw[qAT];omega)
   rw[decide_eq_true (List.prefix_iff_eq_take.1 hpre).symm]at hP
   obtain⟨f1,u1,n1,p1,t1⟩:=s1
   obtain⟨f2,u2,n2,p2,t2⟩:=s2
   dsimp only at *
   subst h3
   subst ht
   subst hv
   unfold snS at *
   dsimp only at *
   clear hp hpre
   skip
   exact yB
  ·obtain⟨h12,ht⟩:=hp.1 h3
   subst h12
   have hP:=zNm s2 s2 (by omega) (by omega)
   simp only[decide_true,Bool.and_true]at hP
   obtain⟨f1,u1,n1,p1,t1⟩:=s2
   dsimp only at *
   unfold snS at *
   dsimp only at *
   clear hp
   skip
   exact yB
 ·have hR1:=zJb l e (F:Int) c hc hC
  have hR2:=zJb l e ((F:Int)+(j:Int)) c hc hC
  clear hr hT hC
  unfold snS sn0 at *
  skip
  exact yB
