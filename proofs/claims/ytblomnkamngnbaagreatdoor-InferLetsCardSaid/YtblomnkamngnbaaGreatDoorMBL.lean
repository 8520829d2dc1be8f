/- Texts of this claim, merged: InfO, InfP, InfQ, InfR. -/
import Derived.Test.YtblomnkamngnbaaGreatDoorMAB
import Derived.Test.YtblomnkamngnbaaGreatDoorMAO
import Derived.Test.YtblomnkamngnbaaGreatDoorMBK
namespace Go.Proofs.YtblomnkamngnbaaGreatDoor
open Go.Sx
theorem zFN {P : Program} {η : List Ob} {σ : Sl} {dst : Option Nat} {ty : TypeId} {pos : String} {after : Array Edge} {gd : Option (Nat × Bool)} {t : TypeId} {p q : Operand} {a : List Nd} {i : Nat} {x : Nd} (hx : a[i]? = some x) (hp : oval σ p = .d (zAc a)) (hq : oval σ q = .d (i64 (i : Int))) (hs : zA9 P t = some 4) :
    Ylds P η σ ⟨dst,.indexAddr t p q,ty,pos,after,gd⟩ (.rptr x.av.flat) :=
  zHA (xs:=a.map Nd.av) (zAn hp) hq hs (by omega) (by show (a.map Nd.av)[((i : Int)).toNat]? = _;rw [Int.toNat_natCast,List.getElem?_map,hx];rfl) (fun d hd=>by obtain ⟨v,_,rfl⟩:=List.mem_map.1 hd;rfl)
abbrev ndB (x : Nd) : Ob:=.bx none none ((Nd.cells x).map .d)
def zHE (L : List Nd) (E : List Sg) (q m : Nat) : Prop:=∀ (n : Nat) (t : Tr) (N : List Lc) (S S' : TS) (r : List Nd),t.sz ≤ m → At L n t → t.werr false = 0 → t.sz ≤ 4500 → Ask E N S t.sz → t.expS q E N S = some (r,S') →
  zAx Tryz.prog 39 [.ptr 0 0,.d (i64 (n : Int)),.d (locs N)] (tyO L E S) (.d (zAc r)) (tyO L E S')
theorem Ask.go {E : List Sg} {N N1 : List Lc} {S S1 : TS} {k k1 a : Nat} (h : Ask E N S k) (u : Up S S1 a) (hok : LcsOk N1) (hn : N1.length + k1 ≤ N.length + k) (hk : a + 5000 * k1 ≤ 5000 * k) : Ask E N1 S1 k1 :=
  ⟨h.e,h.t,by have:=h.n;omega,hok,u.st h.st,by have:=h.nx;have:=u.lo;have:=u.hi;omega⟩
attribute [local irreducible] zAO Program.underlying Ylds zA3 alex zBY zBN awp zAm zBT zBe zAx zBA zBP zA2 zBR zBX zBa zBq zBI zET VCall segC
set_option maxHeartbeats 1000000 in
theorem zVm {L : List Nd} {E : List Sg} {q : Nat} (n : Nat) (t : Tr) (N : List Lc) (S S' : TS) (r : List Nd) (h0 : S.er ≠ 0) (hp : t.expS q E N S = some (r,S')) :
    zAx Tryz.prog 39 [.ptr 0 0,.d (i64 (n : Int)),.d (locs N)] (tyO L E S) (.d (zAc r)) (tyO L E S'):=by
  rw [zIr _ h0] at hp
  injection hp with hp;injection hp with e1 e2;subst e1;subst e2
  have hpl:=zES intT
  refine zAw Tryz.func39 rfl Tryz.ntmps39 Tryz.results39 rfl rfl rfl ?_
  intro wb St0 X fx
  repeat' first | apply en_n|apply zAH|apply zAC|apply zAF|apply w0|(apply zCT;exact rfl;exact rfl;first|assumption|omega)|exact zAe rfl|(refine zAX zD3 hpl (zAZ rfl zAG))|apply ay (hd:=rfl)|exact zAD rfl|exact zAY rfl|exact zAR rfl|(apply zAS;exact rfl;(with_reducible exact fy_3))|(apply zAV;exact rfl;(with_reducible exact zCt);exact rfl;exact rfl)|(apply zAQ;exact rfl)|apply zAN|apply en_r
  exact zAh (zAL (zAA rfl zAW) (zAB rfl rfl (zAB rfl rfl (zAB rfl rfl zAK))) rfl rfl)
set_option maxHeartbeats 4000000 in
theorem zUi {L : List Nd} {E : List Sg} {q m : Nat} (hL : L.length ≤ 2000000) (_ih : zHE L E q m) (n : Nat) (x : Nd) (ks : List Tr) (N : List Lc) (S S' : TS) (r : List Nd) (hk : x.kind = 1) (_hm : (Tr.mk x ks).sz ≤ m + 1) (h : At L n (.mk x ks)) (_hw : (Tr.mk x ks).werr false = 0) (_hz : (Tr.mk x ks).sz ≤ 4500) (hA : Ask E N S (Tr.mk x ks).sz) (h0 : S.er = 0) (hp : (Tr.mk x ks).expS q E N S = some (r,S')) :
    zAx Tryz.prog 39 [.ptr 0 0,.d (i64 (n : Int)),.d (locs N)] (tyO L E S) (.d (zAc r)) (tyO L E S'):=by
  have hx:=h.here
  have hlen : n < L.length:=(List.getElem?_eq_some_iff.1 hx).1
  have hkid:=zCm L (n : Int) hL
  obtain ⟨rfl,rfl⟩:=zVu h0 hk hp
  have hpl:=zES intT
  generalize zBn L (n : Int) = KK at *
  refine zAw Tryz.func39 rfl Tryz.ntmps39 Tryz.results39 rfl rfl rfl ?_
  intro wb St0 X fx
  repeat' first | (refine zB1 (id:=4) [.y (.ptr 0 0),.y (.ptr 0 0),.y (.ptr 0 1),.y (.d (zAc L)),.y (.d (i64 (n : Int))),.y (.rptr x.av.flat),.y (.d (.agg (x.av.flat.take 4))),.y (.ptr 0 0),.y (.ptr 0 0),.y (.ptr 0 1),.y (.d (zAc L)),.y (.d (i64 (n : Int))),.y (.d (zBv KK)),.mk ⟨7,zsN,40,zsN.map cst⟩ none] (by kernel_rfl) (by kernel_rfl) (.inr (by kernel_rfl)) ⟨⟨rfl,zAR rfl⟩,rfl,⟨rfl,zAe rfl⟩,rfl,⟨rfl,zAS rfl fy_1⟩,rfl,⟨rfl,zAV rfl zAg rfl rfl⟩,rfl,⟨rfl,zAE rfl⟩,rfl,⟨rfl,zFN hx rfl rfl zAa⟩,rfl,⟨rfl,zAf rfl zAb rfl⟩,rfl,⟨rfl,zAR rfl⟩,rfl,⟨rfl,zAe rfl⟩,rfl,⟨rfl,zAS rfl fy_1⟩,rfl,⟨rfl,zAV rfl zAg rfl rfl⟩,rfl,⟨rfl,zAE rfl⟩,rfl,⟨rfl,zAX zCj hkid (zAZ rfl (zAZ rfl zAG))⟩,rfl,⟨rfl,rfl,rfl,zAp,by kernel_rfl,rfl⟩,rfl,trivial⟩ ?_)|apply en_n|apply zAH|apply zAC|apply zAF|apply w0|(apply zHo;exact zAn rfl;(with_reducible exact zBy);exact rfl;exact rfl;exact (by simp);exact zDQ N)|(refine zDF (by kernel_rfl) ?_;apply zA0;exact rfl;exact rfl;exact rfl;(with_reducible exact zAb);exact rfl;exact rfl;exact rfl;exact rfl)|(apply zBV;exact rfl;exact rfl;first|assumption|omega)|(apply zBm;exact rfl;exact rfl;first|assumption|omega)|exact zAe rfl|(refine zAX zD3 hpl (zAZ rfl zAG))|apply ay (hd:=rfl)|exact zAE rfl|exact zAD rfl|(apply zAr;exact rfl;(with_reducible exact zDS))|exact zAY rfl|exact zAR rfl|(apply zAS;exact rfl;(with_reducible first|exact fy_3|exact fn_0))|(apply zAV;exact rfl;(with_reducible first|exact zAk|exact zCt);exact rfl;exact rfl)|(refine w0' ?_)|(apply zAQ;exact rfl)|(apply zAU;exact rfl)|apply zAJ|apply zAT|apply zAN|apply en_r|apply eb_r
  exact zAh (zAL (zAA rfl zAW) (zAB rfl rfl (zAB rfl rfl (zAB rfl rfl zAK))) rfl rfl)
set_option maxHeartbeats 4000000 in
theorem zUe {L : List Nd} {E : List Sg} {q m : Nat} (hL : L.length ≤ 2000000) (_ih : zHE L E q m) (n : Nat) (x : Nd) (ks : List Tr) (N : List Lc) (S S' : TS) (r : List Nd) (hk : x.kind = 2) (_hm : (Tr.mk x ks).sz ≤ m + 1) (h : At L n (.mk x ks)) (_hw : (Tr.mk x ks).werr false = 0) (_hz : (Tr.mk x ks).sz ≤ 4500) (hA : Ask E N S (Tr.mk x ks).sz) (h0 : S.er = 0) (hp : (Tr.mk x ks).expS q E N S = some (r,S')) :
    zAx Tryz.prog 39 [.ptr 0 0,.d (i64 (n : Int)),.d (locs N)] (tyO L E S) (.d (zAc r)) (tyO L E S'):=by
  have hx:=h.here
  have hlen : n < L.length:=(List.getElem?_eq_some_iff.1 hx).1
  have hkid:=zCm L (n : Int) hL
  obtain ⟨rfl,rfl⟩:=zVt h0 hk hp
  have hpl:=zES texT
  generalize zBn L (n : Int) = KK at *
  refine zAw Tryz.func39 rfl Tryz.ntmps39 Tryz.results39 rfl rfl rfl ?_
  intro wb St0 X fx
  repeat' first | (refine zB1 (id:=4) [.y (.ptr 0 0),.y (.ptr 0 0),.y (.ptr 0 1),.y (.d (zAc L)),.y (.d (i64 (n : Int))),.y (.rptr x.av.flat),.y (.d (.agg (x.av.flat.take 4))),.y (.ptr 0 0),.y (.ptr 0 0),.y (.ptr 0 1),.y (.d (zAc L)),.y (.d (i64 (n : Int))),.y (.d (zBv KK)),.mk ⟨7,zsN,40,zsN.map cst⟩ none] (by kernel_rfl) (by kernel_rfl) (.inr (by kernel_rfl)) ⟨⟨rfl,zAR rfl⟩,rfl,⟨rfl,zAe rfl⟩,rfl,⟨rfl,zAS rfl fy_1⟩,rfl,⟨rfl,zAV rfl zAg rfl rfl⟩,rfl,⟨rfl,zAE rfl⟩,rfl,⟨rfl,zFN hx rfl rfl zAa⟩,rfl,⟨rfl,zAf rfl zAb rfl⟩,rfl,⟨rfl,zAR rfl⟩,rfl,⟨rfl,zAe rfl⟩,rfl,⟨rfl,zAS rfl fy_1⟩,rfl,⟨rfl,zAV rfl zAg rfl rfl⟩,rfl,⟨rfl,zAE rfl⟩,rfl,⟨rfl,zAX zCj hkid (zAZ rfl (zAZ rfl zAG))⟩,rfl,⟨rfl,rfl,rfl,zAp,by kernel_rfl,rfl⟩,rfl,trivial⟩ ?_)|apply en_n|apply zAH|apply zAC|apply zAF|apply w0|(apply zHo;exact zAn rfl;(with_reducible exact zBy);exact rfl;exact rfl;exact (by simp);exact zDQ N)|(refine zDF (by kernel_rfl) ?_;apply zA0;exact rfl;exact rfl;exact rfl;(with_reducible exact zAb);exact rfl;exact rfl;exact rfl;exact rfl)|(apply zBV;exact rfl;exact rfl;first|assumption|omega)|(apply zBW;exact rfl;exact rfl;first|assumption|omega)|(apply zBm;exact rfl;exact rfl;first|assumption|omega)|exact zAe rfl|(refine zAX zD3 hpl (zAZ rfl zAG))|apply ay (hd:=rfl)|exact zAE rfl|exact zAD rfl|(apply zAr;exact rfl;(with_reducible exact zDS))|exact zAY rfl|exact zAR rfl|(apply zAS;exact rfl;(with_reducible first|exact fy_3|exact fn_0))|(apply zAV;exact rfl;(with_reducible first|exact zAk|exact zCt);exact rfl;exact rfl)|(refine w0' ?_)|(apply zAQ;exact rfl)|(apply zAU;exact rfl)|apply zAJ|apply zAT|apply zAN|apply en_r|apply eb_r
  exact zAh (zAL (zAA rfl zAW) (zAB rfl rfl (zAB rfl rfl (zAB rfl rfl zAK))) rfl rfl)
set_option maxHeartbeats 4000000 in
theorem zUd {L : List Nd} {E : List Sg} {q m : Nat} (hL : L.length ≤ 2000000) (_ih : zHE L E q m) (n : Nat) (x : Nd) (ks : List Tr) (N : List Lc) (S S' : TS) (r : List Nd) (hk : x.kind = 3 ∨ x.kind = 4) (_hm : (Tr.mk x ks).sz ≤ m + 1) (h : At L n (.mk x ks)) (_hw : (Tr.mk x ks).werr false = 0) (hz : (Tr.mk x ks).sz ≤ 4500) (hA : Ask E N S (Tr.mk x ks).sz) (h0 : S.er = 0) (hp : (Tr.mk x ks).expS q E N S = some (r,S')) :
    zAx Tryz.prog 39 [.ptr 0 0,.d (i64 (n : Int)),.d (locs N)] (tyO L E S) (.d (zAc r)) (tyO L E S'):=by
  have hx:=h.here
  have hlen : n < L.length:=(List.getElem?_eq_some_iff.1 hx).1
  have hkid:=zCm L (n : Int) hL
  obtain ⟨u,S1,h1,h2,rfl⟩:=zVs h0 hk hp
  have hsp:=zBO (Tr.mk x ks)
  have hA1:=hA.go (zCY S) hA.ok (k1:=(Tr.mk x ks).sz - 1) (by omega) (by omega)
  obtain ⟨b1,b2⟩:=zLQ hA.t hA.ok h1
  have hnx:=zFZ L E S (by have:=hA.nx;omega)
  have hnm:=zSX L E (zB7 S) S1 N x.text u hA.e hA.t (by have:=hA.n;omega) (fun l hl=>⟨(hA.ok l hl).1,by have:=(hA.ok l hl).2;omega⟩) (by have:=hA1.nx;omega) h1
  have hsm:=zDH L E S1 S' q (varN S.nx) u (by simp [varN]) (by omega) (b1.st hA1.st) h2
  clear hp h1 h2
  generalize zBn L (n : Int) = KK at *
  rcases hk with hk | hk
  all_goals
    refine zAw Tryz.func39 rfl Tryz.ntmps39 Tryz.results39 rfl rfl rfl ?_
    intro wb St0 X fx
  all_goals skip
  repeat' first | exact zCq rfl|(refine zBt (id:=5) (s:=[(0,.ptr 0 0),(2,.d (tslN N)),(7,.ptr 3 0),(8,.d (zBv KK))]) (h:=anch fx 0 (tyO L E S) (tyO L E S) ++ [ndB x]) (zAL (zAA rfl (zAA rfl (zAA rfl (zAA rfl zAW)))) (zAB rfl rfl (zAB rfl rfl (zAB rfl rfl (zHD rfl zEb zAK)))) rfl rfl) ?_)|(refine zB1 (id:=4) [.y (.ptr 0 0),.y (.ptr 0 0),.y (.ptr 0 1),.y (.d (zAc L)),.y (.d (i64 (n : Int))),.y (.rptr x.av.flat),.y (.d (.agg (x.av.flat.take 4))),.y (.ptr 0 0),.y (.ptr 0 0),.y (.ptr 0 1),.y (.d (zAc L)),.y (.d (i64 (n : Int))),.y (.d (zBv KK)),.mk ⟨7,zsN,40,zsN.map cst⟩ none] (by kernel_rfl) (by kernel_rfl) (.inr (by kernel_rfl)) ⟨⟨rfl,zAR rfl⟩,rfl,⟨rfl,zAe rfl⟩,rfl,⟨rfl,zAS rfl fy_1⟩,rfl,⟨rfl,zAV rfl zAg rfl rfl⟩,rfl,⟨rfl,zAE rfl⟩,rfl,⟨rfl,zFN hx rfl rfl zAa⟩,rfl,⟨rfl,zAf rfl zAb rfl⟩,rfl,⟨rfl,zAR rfl⟩,rfl,⟨rfl,zAe rfl⟩,rfl,⟨rfl,zAS rfl fy_1⟩,rfl,⟨rfl,zAV rfl zAg rfl rfl⟩,rfl,⟨rfl,zAE rfl⟩,rfl,⟨rfl,zAX zCj hkid (zAZ rfl (zAZ rfl zAG))⟩,rfl,⟨rfl,rfl,rfl,zAp,by kernel_rfl,rfl⟩,rfl,trivial⟩ ?_)|apply en_n|apply zAH|apply zAC|apply zAF|apply w0|(apply zHo;exact zAn rfl;(with_reducible exact zBy);exact rfl;exact rfl;exact (by simp);exact zDQ N)|(refine zDF (by kernel_rfl) ?_;apply zA0;exact rfl;exact rfl;exact rfl;(with_reducible exact zAb);exact rfl;exact rfl;exact rfl;exact rfl)|(apply zBV;exact rfl;exact rfl;first|assumption|omega)|(apply zBW;exact rfl;exact rfl;first|assumption|omega)|(apply zBm;exact rfl;exact rfl;first|assumption|omega)|exact zAe rfl|(refine zAy [0,1,2] zEL (hnx) ?_ rfl rfl (by decide) rfl rfl rfl rfl rfl rfl ?_;(repeat (refine zAI rfl ?_));exact zAM)|(refine zAy [0,1,2] zQb (hnm) ?_ rfl rfl (by decide) rfl rfl rfl rfl rfl rfl ?_;(repeat (refine zAI rfl ?_));exact zAM)|(refine zAy [0,1,2] zCZ (hsm) ?_ rfl rfl (by decide) rfl rfl rfl rfl rfl rfl ?_;(repeat (refine zAI rfl ?_));exact zAM)|apply ay (hd:=rfl)|exact zAE rfl|exact zAD rfl|(apply zAr;exact rfl;(with_reducible exact zDS))|exact zAY rfl|exact zAR rfl|(apply zAS;exact rfl;(with_reducible first|exact fy_3|exact fn_0|exact fn_1))|(apply zAV;exact rfl;(with_reducible first|exact zAk|exact zA4|exact zCt);exact rfl;exact rfl)|(refine w0' ?_)|(apply zAQ;exact rfl)|(apply zAU;exact rfl)|apply zAJ|apply zAT|apply zAN|apply en_r|apply eb_r
  all_goals exact zAh (zAL (zAA rfl zAW) (zAB rfl rfl (zAB rfl rfl (zAB rfl rfl zAK))) rfl rfl)
end Go.Proofs.YtblomnkamngnbaaGreatDoor
namespace Go.Proofs.YtblomnkamngnbaaGreatDoor
open Go.Sx
attribute [local irreducible] zAO Program.underlying Ylds zA3 alex zBY zBN awp zAm zBT zBe zAx zBA zBP zA2 zBR zBX zBa zBq zBI zET VCall segC
set_option maxHeartbeats 4000000 in
theorem zVl {L : List Nd} {E : List Sg} {q m : Nat} (hL : L.length ≤ 2000000) (ih : zHE L E q m) (n : Nat) (x : Nd) (ks : List Tr) (N : List Lc) (S S' : TS) (r : List Nd) (hk : x.kind = 5) (hm : (Tr.mk x ks).sz ≤ m + 1) (h : At L n (.mk x ks)) (hw : (Tr.mk x ks).werr false = 0) (hz : (Tr.mk x ks).sz ≤ 4500) (hA : Ask E N S (Tr.mk x ks).sz) (h0 : S.er = 0) (hp : (Tr.mk x ks).expS q E N S = some (r,S')) :
    zAx Tryz.prog 39 [.ptr 0 0,.d (i64 (n : Int)),.d (locs N)] (tyO L E S) (.d (zAc r)) (tyO L E S'):=by
  have hx:=h.here
  have hlen : n < L.length:=(List.getElem?_eq_some_iff.1 hx).1
  have hkid:=zCm L (n : Int) hL
  obtain ⟨k,rfl⟩:=zJS h.wf (by have:=(zC0 hw).2;rw [hk] at this;simpa [cntK] using this)
  have hwk:=(zDC hw).2
  have hwf:=h.wf
  rw [Tr.wf] at hwf
  have hwf2:=zCK.1 hwf.2
  have hsz : (Tr.mk x [k]).sz = k.sz + 1:=by simp only [Tr.sz,szL,Nat.add_zero] <;> omega
  have hk0:=h.kids_get (i:=0) (by simp)
  have hat0:=h.kid (i:=0) (k:=k) rfl
  have hw0 : k.werr false = 0:=by simpa [hk] using zBB (j:=0) hwk (k:=k) rfl
  have hf0:=hwf2 k (by simp)
  generalize kidAt n [k] 0 = p0 at *
  obtain ⟨b,h1,rfl⟩:=zVr h0 hk hp
  have hlk : LcOk ⟨x.text,varN S.nx,[]⟩:=⟨by simp [varN],by simp⟩
  have hA1:=hA.go (zCY S) (hA.ok.app hlk) (k1:=k.sz) (by simp;omega) (by omega)
  obtain ⟨b1,b2⟩:=zBi hA.t k.sz k (Nat.le_refl _) hf0 hw0 (by omega) (hA.ok.app hlk) h1
  have hnx:=zFZ L E S (by have:=hA.nx;omega)
  have hce:=ih p0 k (N ++ [⟨x.text,varN S.nx,[]⟩]) (zB7 S) S' b (by omega) hat0 hw0 (by omega) hA1 h1
  have har:=zOJ (varN S.nx) b (by simp [varN]) (by omega)
  rw [show locs (N ++ [⟨x.text,varN S.nx,[]⟩]) = .slice (N.map Lc.av ++ [Lc.av ⟨x.text,varN S.nx,[]⟩]) by simp [locs]] at hce
  have hcap : ((N.map Lc.av).length + 1) * 64 ≤ 140737488355328 ∧ (N.map Lc.av).length + 1 ≤ 140737488355328:=by have:=hA.n;rw [List.length_map];omega
  clear hp h1 hwk hwf2 hwf
  generalize zBn L (n : Int) = KK at *
  refine zAw Tryz.func39 rfl Tryz.ntmps39 Tryz.results39 rfl rfl rfl ?_
  intro wb St0 X fx
  repeat' first | (refine zBt (id:=5) (s:=[(0,.ptr 0 0),(2,.d (tslN N)),(7,.ptr 3 0),(8,.d (zBv KK))]) (h:=anch fx 0 (tyO L E S) (tyO L E S) ++ [ndB x]) (zAL (zAA rfl (zAA rfl (zAA rfl (zAA rfl zAW)))) (zAB rfl rfl (zAB rfl rfl (zAB rfl rfl (zHD rfl zEb zAK)))) rfl rfl) ?_)|(refine zB1 (id:=4) [.y (.ptr 0 0),.y (.ptr 0 0),.y (.ptr 0 1),.y (.d (zAc L)),.y (.d (i64 (n : Int))),.y (.rptr x.av.flat),.y (.d (.agg (x.av.flat.take 4))),.y (.ptr 0 0),.y (.ptr 0 0),.y (.ptr 0 1),.y (.d (zAc L)),.y (.d (i64 (n : Int))),.y (.d (zBv KK)),.mk ⟨7,zsN,40,zsN.map cst⟩ none] (by kernel_rfl) (by kernel_rfl) (.inr (by kernel_rfl)) ⟨⟨rfl,zAR rfl⟩,rfl,⟨rfl,zAe rfl⟩,rfl,⟨rfl,zAS rfl fy_1⟩,rfl,⟨rfl,zAV rfl zAg rfl rfl⟩,rfl,⟨rfl,zAE rfl⟩,rfl,⟨rfl,zFN hx rfl rfl zAa⟩,rfl,⟨rfl,zAf rfl zAb rfl⟩,rfl,⟨rfl,zAR rfl⟩,rfl,⟨rfl,zAe rfl⟩,rfl,⟨rfl,zAS rfl fy_1⟩,rfl,⟨rfl,zAV rfl zAg rfl rfl⟩,rfl,⟨rfl,zAE rfl⟩,rfl,⟨rfl,zAX zCj hkid (zAZ rfl (zAZ rfl zAG))⟩,rfl,⟨rfl,rfl,rfl,zAp,by kernel_rfl,rfl⟩,rfl,trivial⟩ ?_)|(apply zHX (id:=17) (ids:=[0,1,2]) (ss:=[.d (zAc (varN S.nx)),.ptr 0 0,.d (zBv KK),.rptr (ival (p0 : Int)).flat,.d (ival (p0 : Int)),.d (tslN N),.ptr 3 (0 + 1),.d (str x.text),.d (zAc (varN S.nx)),.d (Lc.av ⟨x.text,varN S.nx,[]⟩),.d (.slice [Lc.av ⟨x.text,varN S.nx,[]⟩]),.d (.slice (N.map Lc.av ++ [Lc.av ⟨x.text,varN S.nx,[]⟩])),.d (zAc b)]) (e:=12);kernel_rfl;kernel_rfl;exact rfl;exact .inr (by kernel_rfl);exact rfl)|apply en_n|apply zAH|apply zAC|apply zAF|apply w0|(apply zHo;exact zAn rfl;(with_reducible exact zBy);exact rfl;exact rfl;exact (by simp);exact zDQ N)|(refine zDF (by kernel_rfl) ?_;apply zA0;exact rfl;exact rfl;exact rfl;(with_reducible exact zAb);exact rfl;exact rfl;exact rfl;exact rfl)|(apply zBV;exact rfl;exact rfl;first|assumption|omega)|(apply zBW;exact rfl;exact rfl;first|assumption|omega)|(apply zBm;exact rfl;exact rfl;first|assumption|omega)|exact zAe rfl|(refine zAy [0,1,2] zEL (hnx) ?_ rfl rfl (by decide) rfl rfl rfl rfl rfl rfl ?_;(repeat (refine zAI rfl ?_));exact zAM)|exact zGh|(apply zHM (hb:=zDO) (hc:=hce);exact rfl;((repeat (refine zAI rfl ?_));exact zAM);exact rfl;exact rfl;exact (by decide);exact rfl;exact rfl;exact rfl;exact rfl;exact rfl;exact rfl;exact rfl;exact rfl;exact rfl;exact rfl)|(refine zLC rfl rfl rfl rfl ?_ ?_)|apply zFs|exact zHB|(apply zHZ;exact hk0;exact rfl;exact rfl;exact zBD)|(apply zJo (ys:=[Lc.av ⟨x.text,varN S.nx,[]⟩]);exact rfl;exact zAn rfl;exact rfl;(with_reducible exact zCl);(with_reducible exact zBy);(with_reducible exact zHb);(with_reducible exact zFm);exact zDQ N;exact zCP rfl;exact hcap)|(apply zBS (cs:=Lc.cells ⟨x.text,varN S.nx,[]⟩);exact zHe;exact zFJ;exact PD_d rfl rfl (PD_d rfl rfl (PD_n rfl zCF));exact rfl)|(refine zAX zN3 har (zAZ rfl (zAZ rfl zAG)))|apply ay (hd:=rfl)|exact zAE rfl|exact zAD rfl|(apply zAi;exact rfl;(with_reducible exact zAz))|(apply zAr;exact rfl;(with_reducible exact zDS))|exact zAY rfl|exact zAR rfl|(apply zAS;exact rfl;(with_reducible first|exact fy_3|exact fn_0|exact fn_1))|(apply zAV;exact rfl;(with_reducible first|exact zAk|exact zA4|exact zCt);exact rfl;exact rfl)|(apply zCD;(with_reducible exact zCl);(with_reducible exact zBy);(with_reducible exact zH8);exact rfl;exact rfl;(first|exact zAZ rfl zAG|exact zCo rfl rfl rfl zAG|exact zCs rfl zAG);exact rfl)|(refine w0' ?_)|(apply zAQ;exact rfl)|(apply zAU;exact rfl)|apply zAJ|apply zAT|apply zAN|apply en_r|apply eb_r
  exact zAh (zAL (zAA rfl zAW) (zAB rfl rfl (zAB rfl rfl (zAB rfl rfl zAK))) rfl rfl)
end Go.Proofs.YtblomnkamngnbaaGreatDoor
namespace Go.Proofs.YtblomnkamngnbaaGreatDoor
open Go.Sx
attribute [local irreducible] zAO Program.underlying Ylds zA3 alex zBY zBN awp zAm zBT zBe zAx zBA zBP zA2 zBR zBX zBa zBq zBI zET VCall segC
set_option maxHeartbeats 4000000 in
theorem zUj {L : List Nd} {E : List Sg} {q m : Nat} (hL : L.length ≤ 2000000) (ih : zHE L E q m) (n : Nat) (x : Nd) (ks : List Tr) (N : List Lc) (S S' : TS) (r : List Nd) (hk : x.kind = 6) (hm : (Tr.mk x ks).sz ≤ m + 1) (h : At L n (.mk x ks)) (hw : (Tr.mk x ks).werr false = 0) (hz : (Tr.mk x ks).sz ≤ 4500) (hA : Ask E N S (Tr.mk x ks).sz) (h0 : S.er = 0) (hp : (Tr.mk x ks).expS q E N S = some (r,S')) :
    zAx Tryz.prog 39 [.ptr 0 0,.d (i64 (n : Int)),.d (locs N)] (tyO L E S) (.d (zAc r)) (tyO L E S'):=by
  have hx:=h.here
  have hlen : n < L.length:=(List.getElem?_eq_some_iff.1 hx).1
  have hkid:=zCm L (n : Int) hL
  obtain ⟨a,b,rfl⟩:=zFM h.wf (by have:=(zC0 hw).2;rw [hk] at this;simpa [cntK] using this)
  have hwk:=(zDC hw).2
  have hwf:=h.wf
  rw [Tr.wf] at hwf
  have hwf2:=zCK.1 hwf.2
  have hsz : (Tr.mk x [a,b]).sz = a.sz + b.sz + 1:=by simp only [Tr.sz,szL,Nat.add_zero] <;> omega
  have hk0:=h.kids_get (i:=0) (by simp)
  have hat0:=h.kid (i:=0) (k:=a) rfl
  have hw0 : a.werr false = 0:=by simpa [hk] using zBB (j:=0) hwk (k:=a) rfl
  have hf0:=hwf2 a (by simp)
  have hk1:=h.kids_get (i:=1) (by simp)
  have hat1:=h.kid (i:=1) (k:=b) rfl
  have hw1 : b.werr false = 0:=by simpa [hk] using zBB (j:=1) hwk (k:=b) rfl
  have hf1:=hwf2 b (by simp)
  generalize kidAt n [a,b] 0 = p0 at *
  generalize kidAt n [a,b] 1 = p1 at *
  obtain ⟨t,S1,u,S2,h1,h2,h3,rfl⟩:=zVq h0 hk hp
  have hpa:=zBO a
  have hpb:=zBO b
  obtain ⟨b01,b02⟩:=zBi hA.t a.sz a (Nat.le_refl _) hf0 hw0 (by omega) hA.ok h1
  obtain ⟨b11,b12⟩:=zBi hA.t b.sz b (Nat.le_refl _) hf1 hw1 (by omega) hA.ok h2
  have hA0:=hA.go (Up.refl S) hA.ok (k1:=a.sz) (by omega) (by omega)
  have hA1:=hA.go b01 hA.ok (k1:=b.sz) (by omega) (by omega)
  have hA2:=hA.go (b01.trans b11) hA.ok (k1:=1) (by omega) (by omega)
  have hce0:=ih p0 a N S S1 t (by omega) hat0 hw0 (by omega) hA0 h1
  have hce1:=ih p1 b N S1 S2 u (by omega) hat1 hw1 (by omega) hA1 h2
  have hnx:=zFZ L E S2 (by have:=hA2.nx;omega)
  have har:=zOJ u (varN S2.nx) (by omega) (by simp [varN])
  have hsm:=zDH L E (zB7 S2) S' q t (zEX u (varN S2.nx)) (by omega) (by rw [zGC];simp [varN];omega) ((zCY S2).st hA2.st) h3
  clear hp h1 h2 h3 hwk hwf2 hwf
  generalize zBn L (n : Int) = KK at *
  refine zAw Tryz.func39 rfl Tryz.ntmps39 Tryz.results39 rfl rfl rfl ?_
  intro wb St0 X fx
  repeat' first | (refine zBt (id:=20) (s:=[(0,.ptr 0 0),(2,.d (tslN N)),(7,.ptr 3 0),(8,.d (zBv KK)),(11,.d (zAc t))]) (h:=anch fx 0 (tyO L E S) (tyO L E S1) ++ [ndB x]) (zAL (zAA rfl (zAA rfl (zAA rfl (zAA rfl (zAA rfl zAW))))) (zAB rfl rfl (zAB rfl rfl (zAB rfl rfl (zAB rfl rfl zAK)))) rfl rfl) ?_)|(refine zBt (id:=21) (s:=[(0,.ptr 0 0),(11,.d (zAc t)),(12,.d (zAc u))]) (h:=anch fx 0 (tyO L E S) (tyO L E S2) ++ [ndB x]) (zAL (zAA rfl (zAA rfl (zAA rfl zAW))) (zAB rfl rfl (zAB rfl rfl (zAB rfl rfl (zAB rfl rfl zAK)))) rfl rfl) ?_)|exact zCq rfl|(refine zBt (id:=5) (s:=[(0,.ptr 0 0),(2,.d (tslN N)),(7,.ptr 3 0),(8,.d (zBv KK))]) (h:=anch fx 0 (tyO L E S) (tyO L E S) ++ [ndB x]) (zAL (zAA rfl (zAA rfl (zAA rfl (zAA rfl zAW)))) (zAB rfl rfl (zAB rfl rfl (zAB rfl rfl (zHD rfl zEb zAK)))) rfl rfl) ?_)|(refine zB1 (id:=4) [.y (.ptr 0 0),.y (.ptr 0 0),.y (.ptr 0 1),.y (.d (zAc L)),.y (.d (i64 (n : Int))),.y (.rptr x.av.flat),.y (.d (.agg (x.av.flat.take 4))),.y (.ptr 0 0),.y (.ptr 0 0),.y (.ptr 0 1),.y (.d (zAc L)),.y (.d (i64 (n : Int))),.y (.d (zBv KK)),.mk ⟨7,zsN,40,zsN.map cst⟩ none] (by kernel_rfl) (by kernel_rfl) (.inr (by kernel_rfl)) ⟨⟨rfl,zAR rfl⟩,rfl,⟨rfl,zAe rfl⟩,rfl,⟨rfl,zAS rfl fy_1⟩,rfl,⟨rfl,zAV rfl zAg rfl rfl⟩,rfl,⟨rfl,zAE rfl⟩,rfl,⟨rfl,zFN hx rfl rfl zAa⟩,rfl,⟨rfl,zAf rfl zAb rfl⟩,rfl,⟨rfl,zAR rfl⟩,rfl,⟨rfl,zAe rfl⟩,rfl,⟨rfl,zAS rfl fy_1⟩,rfl,⟨rfl,zAV rfl zAg rfl rfl⟩,rfl,⟨rfl,zAE rfl⟩,rfl,⟨rfl,zAX zCj hkid (zAZ rfl (zAZ rfl zAG))⟩,rfl,⟨rfl,rfl,rfl,zAp,by kernel_rfl,rfl⟩,rfl,trivial⟩ ?_)|apply en_n|apply zAH|apply zAC|apply zAF|apply w0|(apply zHo;exact zAn rfl;(with_reducible exact zBy);exact rfl;exact rfl;exact (by simp);exact zDQ N)|(refine zDF (by kernel_rfl) ?_;apply zA0;exact rfl;exact rfl;exact rfl;(with_reducible exact zAb);exact rfl;exact rfl;exact rfl;exact rfl)|(apply zBV;exact rfl;exact rfl;first|assumption|omega)|(apply zBW;exact rfl;exact rfl;first|assumption|omega)|(apply zBm;exact rfl;exact rfl;first|assumption|omega)|exact zAe rfl|(refine zAy [0,1,2] zDO (hce0) ?_ rfl rfl (by decide) rfl rfl rfl rfl rfl rfl ?_;(repeat (refine zAI rfl ?_));exact zAM)|(refine zAy [0,1,2] zDO (hce1) ?_ rfl rfl (by decide) rfl rfl rfl rfl rfl rfl ?_;(repeat (refine zAI rfl ?_));exact zAM)|(refine zAy [0,1,2] zEL (hnx) ?_ rfl rfl (by decide) rfl rfl rfl rfl rfl rfl ?_;(repeat (refine zAI rfl ?_));exact zAM)|(refine zAy [0,1,2] zCZ (hsm) ?_ rfl rfl (by decide) rfl rfl rfl rfl rfl rfl ?_;(repeat (refine zAI rfl ?_));exact zAM)|(refine zAX zN3 har (zAZ rfl (zAZ rfl zAG)))|(apply aJ (hd:=rfl);(first|exact zAn rfl|exact Co_bb rfl rfl rfl|exact Co_nn rfl);exact rfl;(with_reducible exact zBD);assumption;omega;exact fun _=>rfl)|apply ay (hd:=rfl)|exact zAE rfl|exact zAD rfl|(apply zAi;exact rfl;(with_reducible exact zAz))|(apply zAr;exact rfl;(with_reducible exact zDS))|exact zAY rfl|exact zAR rfl|(apply zAS;exact rfl;(with_reducible first|exact fy_3|exact fn_0))|(apply zAV;exact rfl;(with_reducible first|exact zAk|exact zCt);exact rfl;exact rfl)|(refine w0' ?_)|(apply zAQ;exact rfl)|(apply zAU;exact rfl)|apply zAJ|apply zAT|apply zAN|apply en_r|apply eb_r
  exact zAh (zAL (zAA rfl zAW) (zAB rfl rfl (zAB rfl rfl (zAB rfl rfl zAK))) rfl rfl)
end Go.Proofs.YtblomnkamngnbaaGreatDoor
namespace Go.Proofs.YtblomnkamngnbaaGreatDoor
open Go.Sx
attribute [local irreducible] zAO Program.underlying Ylds zA3 alex zBY zBN awp zAm zBT zBe zAx zBA zBP zA2 zBR zBX zBa zBq zBI zET VCall segC
set_option maxHeartbeats 4000000 in
theorem zVk {L : List Nd} {E : List Sg} {q m : Nat} (hL : L.length ≤ 2000000) (ih : zHE L E q m) (n : Nat) (x : Nd) (ks : List Tr) (N : List Lc) (S S' : TS) (r : List Nd) (hk : x.kind = 9) (hm : (Tr.mk x ks).sz ≤ m + 1) (h : At L n (.mk x ks)) (hw : (Tr.mk x ks).werr false = 0) (hz : (Tr.mk x ks).sz ≤ 4500) (hA : Ask E N S (Tr.mk x ks).sz) (h0 : S.er = 0) (hp : (Tr.mk x ks).expS q E N S = some (r,S')) :
    zAx Tryz.prog 39 [.ptr 0 0,.d (i64 (n : Int)),.d (locs N)] (tyO L E S) (.d (zAc r)) (tyO L E S'):=by
  have hx:=h.here
  have hlen : n < L.length:=(List.getElem?_eq_some_iff.1 hx).1
  have hkid:=zCm L (n : Int) hL
  obtain ⟨a,b,c,rfl⟩:=zQR h.wf (by have:=(zC0 hw).2;rw [hk] at this;simpa [cntK] using this)
  have hwk:=(zDC hw).2
  have hwf:=h.wf
  rw [Tr.wf] at hwf
  have hwf2:=zCK.1 hwf.2
  have hsz : (Tr.mk x [a,b,c]).sz = a.sz + b.sz + c.sz + 1:=by simp only [Tr.sz,szL,Nat.add_zero] <;> omega
  have hk0:=h.kids_get (i:=0) (by simp)
  have hat0:=h.kid (i:=0) (k:=a) rfl
  have hw0 : a.werr false = 0:=by simpa [hk] using zBB (j:=0) hwk (k:=a) rfl
  have hf0:=hwf2 a (by simp)
  have hk1:=h.kids_get (i:=1) (by simp)
  have hat1:=h.kid (i:=1) (k:=b) rfl
  have hw1 : b.werr false = 0:=by simpa [hk] using zBB (j:=1) hwk (k:=b) rfl
  have hf1:=hwf2 b (by simp)
  have hk2:=h.kids_get (i:=2) (by simp)
  have hat2:=h.kid (i:=2) (k:=c) rfl
  have hw2 : c.werr false = 0:=by simpa [hk] using zBB (j:=2) hwk (k:=c) rfl
  have hf2:=hwf2 c (by simp)
  generalize kidAt n [a,b,c] 0 = p0 at *
  generalize kidAt n [a,b,c] 1 = p1 at *
  generalize kidAt n [a,b,c] 2 = p2 at *
  obtain ⟨t,S1,S2,S3,u,S4,h1,h2,h3,h4,h5⟩:=zVo h0 hk hp
  have hpa:=zBO a
  have hpb:=zBO b
  have hpc:=zBO c
  obtain ⟨b01,b02⟩:=zBi hA.t a.sz a (Nat.le_refl _) hf0 hw0 (by omega) hA.ok h1
  obtain ⟨b11,b12⟩:=zBi hA.t b.sz b (Nat.le_refl _) hf1 hw1 (by omega) hA.ok h3
  obtain ⟨b21,b22⟩:=zBi hA.t c.sz c (Nat.le_refl _) hf2 hw2 (by omega) hA.ok h4
  have hA0:=hA.go (Up.refl S) hA.ok (k1:=a.sz) (by omega) (by omega)
  have hA1:=hA.go (b01.trans (zCB h2)) hA.ok (k1:=b.sz) (by omega) (by omega)
  have hA2:=hA.go ((b01.trans (zCB h2)).trans b11) hA.ok (k1:=c.sz) (by omega) (by omega)
  have hA3:=hA.go (((b01.trans (zCB h2)).trans b11).trans b21) hA.ok (k1:=1) (by omega) (by omega)
  have hA9:=hA.go b01 hA.ok (k1:=1) (by omega) (by omega)
  have hpl:=zES intT
  have hce0:=ih p0 a N S S1 t (by omega) hat0 hw0 (by omega) hA0 h1
  have hce1:=ih p1 b N S2 S3 r (by omega) hat1 hw1 (by omega) hA1 h3
  have hce2:=ih p2 c N S3 S4 u (by omega) hat2 hw2 (by omega) hA2 h4
  have hsm:=zDH L E S1 S2 q t (zBC intT) (by omega) (by simp [zBC]) hA9.st h2
  have hsm2:=zDH L E S4 S' q r u (by omega) (by omega) hA3.st h5
  clear hp h1 h2 h3 h4 h5 hwk hwf2 hwf
  generalize zBn L (n : Int) = KK at *
  refine zAw Tryz.func39 rfl Tryz.ntmps39 Tryz.results39 rfl rfl rfl ?_
  intro wb St0 X fx
  repeat' first | (refine zBt (id:=36) (s:=[(0,.ptr 0 0),(2,.d (tslN N)),(7,.ptr 3 0),(8,.d (zBv KK))]) (h:=anch fx 0 (tyO L E S) (tyO L E S2) ++ [ndB x]) (zAL (zAA rfl (zAA rfl (zAA rfl (zAA rfl zAW)))) (zAB rfl rfl (zAB rfl rfl (zAB rfl rfl (zAB rfl rfl zAK)))) rfl rfl) ?_)|(refine zBt (id:=37) (s:=[(0,.ptr 0 0),(2,.d (tslN N)),(7,.ptr 3 0),(8,.d (zBv KK)),(17,.d (zAc r))]) (h:=anch fx 0 (tyO L E S) (tyO L E S3) ++ [ndB x]) (zAL (zAA rfl (zAA rfl (zAA rfl (zAA rfl (zAA rfl zAW))))) (zAB rfl rfl (zAB rfl rfl (zAB rfl rfl (zAB rfl rfl zAK)))) rfl rfl) ?_)|exact zCq rfl|(refine zBt (id:=5) (s:=[(0,.ptr 0 0),(2,.d (tslN N)),(7,.ptr 3 0),(8,.d (zBv KK))]) (h:=anch fx 0 (tyO L E S) (tyO L E S) ++ [ndB x]) (zAL (zAA rfl (zAA rfl (zAA rfl (zAA rfl zAW)))) (zAB rfl rfl (zAB rfl rfl (zAB rfl rfl (zHD rfl zEb zAK)))) rfl rfl) ?_)|(refine zB1 (id:=4) [.y (.ptr 0 0),.y (.ptr 0 0),.y (.ptr 0 1),.y (.d (zAc L)),.y (.d (i64 (n : Int))),.y (.rptr x.av.flat),.y (.d (.agg (x.av.flat.take 4))),.y (.ptr 0 0),.y (.ptr 0 0),.y (.ptr 0 1),.y (.d (zAc L)),.y (.d (i64 (n : Int))),.y (.d (zBv KK)),.mk ⟨7,zsN,40,zsN.map cst⟩ none] (by kernel_rfl) (by kernel_rfl) (.inr (by kernel_rfl)) ⟨⟨rfl,zAR rfl⟩,rfl,⟨rfl,zAe rfl⟩,rfl,⟨rfl,zAS rfl fy_1⟩,rfl,⟨rfl,zAV rfl zAg rfl rfl⟩,rfl,⟨rfl,zAE rfl⟩,rfl,⟨rfl,zFN hx rfl rfl zAa⟩,rfl,⟨rfl,zAf rfl zAb rfl⟩,rfl,⟨rfl,zAR rfl⟩,rfl,⟨rfl,zAe rfl⟩,rfl,⟨rfl,zAS rfl fy_1⟩,rfl,⟨rfl,zAV rfl zAg rfl rfl⟩,rfl,⟨rfl,zAE rfl⟩,rfl,⟨rfl,zAX zCj hkid (zAZ rfl (zAZ rfl zAG))⟩,rfl,⟨rfl,rfl,rfl,zAp,by kernel_rfl,rfl⟩,rfl,trivial⟩ ?_)|apply en_n|apply zAH|apply zAC|apply zAF|apply w0|(apply zHo;exact zAn rfl;(with_reducible exact zBy);exact rfl;exact rfl;exact (by simp);exact zDQ N)|(refine zDF (by kernel_rfl) ?_;apply zA0;exact rfl;exact rfl;exact rfl;(with_reducible exact zAb);exact rfl;exact rfl;exact rfl;exact rfl)|(apply zBV;exact rfl;exact rfl;first|assumption|omega)|(apply zBW;exact rfl;exact rfl;first|assumption|omega)|(apply zBm;exact rfl;exact rfl;first|assumption|omega)|exact zAe rfl|(refine zAy [0,1,2] zDO (hce0) ?_ rfl rfl (by decide) rfl rfl rfl rfl rfl rfl ?_;(repeat (refine zAI rfl ?_));exact zAM)|(refine zAy [0,1,2] zDO (hce1) ?_ rfl rfl (by decide) rfl rfl rfl rfl rfl rfl ?_;(repeat (refine zAI rfl ?_));exact zAM)|(refine zAy [0,1,2] zDO (hce2) ?_ rfl rfl (by decide) rfl rfl rfl rfl rfl rfl ?_;(repeat (refine zAI rfl ?_));exact zAM)|(refine zAy [0,1,2] zCZ (hsm) ?_ rfl rfl (by decide) rfl rfl rfl rfl rfl rfl ?_;(repeat (refine zAI rfl ?_));exact zAM)|(refine zAy [0,1,2] zCZ (hsm2) ?_ rfl rfl (by decide) rfl rfl rfl rfl rfl rfl ?_;(repeat (refine zAI rfl ?_));exact zAM)|(refine zAX zD3 hpl (zAZ rfl zAG))|(apply aJ (hd:=rfl);(first|exact zAn rfl|exact Co_bb rfl rfl rfl|exact Co_nn rfl);exact rfl;(with_reducible exact zBD);assumption;omega;exact fun _=>rfl)|apply ay (hd:=rfl)|exact zAE rfl|exact zAD rfl|(apply zAi;exact rfl;(with_reducible exact zAz))|(apply zAr;exact rfl;(with_reducible exact zDS))|exact zAY rfl|exact zAR rfl|(apply zAS;exact rfl;(with_reducible first|exact fy_3|exact fn_0))|(apply zAV;exact rfl;(with_reducible first|exact zAk|exact zCt);exact rfl;exact rfl)|(refine w0' ?_)|(apply zAQ;exact rfl)|(apply zAU;exact rfl)|apply zAJ|apply zAT|apply zAN|apply en_r|apply eb_r
  exact zAh (zAL (zAA rfl zAW) (zAB rfl rfl (zAB rfl rfl (zAB rfl rfl zAK))) rfl rfl)
end Go.Proofs.YtblomnkamngnbaaGreatDoor
