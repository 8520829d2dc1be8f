/- Texts of this claim, merged: InfT. -/
import Derived.Test.YtblomnkamngnbaaGreatDoorMBJ
namespace Go.Proofs.YtblomnkamngnbaaGreatDoor
open Go.Sx
attribute [local irreducible] zAT Program.underlying Ylds zBA alex zBe zBP awp zAj zBZ zBk zA2 zBH zBR zA8 zBV zBb zBf zBu zBO zEL VCall segC
set_option maxHeartbeats 4000000 in
theorem zRw {L : List Nd} {E : List Sg} {q m : Nat} (hL : L.length ≤ 2000000) (ih : zGr L E q m) (n : Nat) (x : Nd) (ks : List Tr) (N : List Lc) (S S' : TS) (r : List Nd) (hk : x.kind = 7) (hm : (Tr.mk x ks).sz ≤ m + 1) (h : At L n (.mk x ks)) (hw : (Tr.mk x ks).werr false = 0) (hz : (Tr.mk x ks).sz ≤ 4500) (hA : Ask E N S (Tr.mk x ks).sz) (h0 : S.er = 0) (a b : Tr) (hks : ks = [a,b]) (hv : a.val = true) (hp : (Tr.mk x ks).expS q E N S = some (r,S')) :
    zA2 Tryz.prog 39 [.ptr 0 0,.d (i64 (n : Int)),.d (locs N)] (tyO L E S) (.d (zAc r)) (tyO L E S'):=by
  have hx:=h.here
  have hlen : n < L.length:=(List.getElem?_eq_some_iff.1 hx).1
  have hkid:=zCd L (n : Int) hL
  subst hks
  have hwk:=(zC7 hw).2
  have hwf:=h.wf
  rw [Tr.wf] at hwf
  have hwf2:=zCW.1 hwf.2
  have hsz : (Tr.mk x [a,b]).sz = a.sz + b.sz + 1:=by simp only [Tr.sz,szL,Nat.add_zero] <;> omega
  have hk0:=h.kids_get (i:=0) (by simp)
  have hat0:=h.kid (i:=0) (k:=a) rfl
  have hw0 : a.werr false = 0:=by simpa [hk] using zBa (j:=0) hwk (k:=a) rfl
  have hf0:=hwf2 a (by simp)
  have hk1:=h.kids_get (i:=1) (by simp)
  have hat1:=h.kid (i:=1) (k:=b) rfl
  have hw1 : b.werr false = 0:=by simpa [hk] using zBa (j:=1) hwk (k:=b) rfl
  have hf1:=hwf2 b (by simp)
  generalize kidAt n [a,b] 0 = p0 at *
  generalize kidAt n [a,b] 1 = p1 at *
  obtain ⟨t,S1,h1,h2⟩:=zTd h0 hk hp
  have hpa:=zBS a
  have hpb:=zBS b
  obtain ⟨b01,b02⟩:=zBj hA.t a.sz a (Nat.le_refl _) hf0 hw0 (by omega) hA.ok h1
  rcases h2 with ⟨_,y,S2,h3,h4⟩ | ⟨h3,_⟩
  case inr=>rw [hv] at h3;cases h3
  obtain ⟨d1,hlk⟩:=zKM (by omega) h3
  obtain ⟨b11,b12⟩:=zBj hA.t b.sz b (Nat.le_refl _) hf1 hw1 (by omega) (hA.ok.app hlk) h4
  have hA0:=hA.go (Up.refl S) hA.ok (k1:=a.sz) (by omega) (by omega)
  have hA9:=hA.go b01 hA.ok (k1:=1) (by omega) (by omega)
  have hA1:=hA.go (b01.trans d1) (hA.ok.app hlk) (k1:=b.sz) (by simp;omega) (by omega)
  have hce0:=ih p0 a N S S1 t (by omega) hat0 hw0 (by omega) hA0 h1
  have hce1:=ih p1 b (N ++ [y]) S2 S' r (by omega) hat1 hw1 (by omega) hA1 h4
  rw [show locs (N ++ [y]) = .slice (N.map Lc.av ++ [Lc.av y]) by simp [locs]] at hce1
  have hvl:=zHd L hL a.sz p0 a (Nat.le_refl _) hat0 hw0
  rw [hv] at hvl
  have hay:=zSi L E S1 S2 q x.text t N y (by omega) (by have:=hA.n;omega) (fun l hl=>⟨(hA.ok l hl).1,by have:=(hA.ok l hl).2;omega⟩) hA9.st h3
  have hcap : ((N.map Lc.av).length + 1) * 64 ≤ 140737488355328 ∧ (N.map Lc.av).length + 1 ≤ 140737488355328:=by have:=hA.n;rw [List.length_map];omega
  clear hp h1 h4 hwk hwf2 hwf
  generalize zBX L (n : Int) = KK at *
  refine zA1 Tryz.func39 rfl Tryz.ntmps39 Tryz.results39 rfl rfl rfl ?_
  intro wb St0 X fx
  repeat' first | (refine zBv (id:=26) (s:=[(0,.ptr 0 0),(2,.d (tslN N)),(7,.ptr 3 0),(8,.d (zBm KK)),(14,.d (zAc t))]) (h:=anch fx 0 (tyO L E S) (tyO L E S1) ++ [ndB x]) (zAO (zAA rfl (zAA rfl (zAA rfl (zAA rfl (zAA rfl zAa))))) (zAD rfl rfl (zAD rfl rfl (zAD rfl rfl (zAD rfl rfl zAN)))) rfl rfl) ?_)|(refine zBv (id:=29) (s:=[(0,.ptr 0 0),(2,.d (tslN N)),(7,.ptr 3 0),(8,.d (zBm KK)),(15,.ptr 4 0)]) (h:=anch fx 0 (tyO L E S) (tyO L E S2) ++ [ndB x,.bx none none ((Lc.cells y).map .d)]) (zAO (zAA rfl (zAA rfl (zAA rfl (zAA rfl (zAA rfl zAa))))) (zAD rfl rfl (zAD rfl rfl (zAD rfl rfl (zAD rfl rfl (zAD rfl rfl zAN))))) rfl rfl) ?_)|exact zCg rfl|(refine zBv (id:=5) (s:=[(0,.ptr 0 0),(2,.d (tslN N)),(7,.ptr 3 0),(8,.d (zBm KK))]) (h:=anch fx 0 (tyO L E S) (tyO L E S) ++ [ndB x]) (zAO (zAA rfl (zAA rfl (zAA rfl (zAA rfl zAa)))) (zAD rfl rfl (zAD rfl rfl (zAD rfl rfl (zGq rfl zEQ zAN)))) rfl rfl) ?_)|(refine zB2 (id:=4) [.y (.ptr 0 0),.y (.ptr 0 0),.y (.ptr 0 1),.y (.d (zAc L)),.y (.d (i64 (n : Int))),.y (.rptr x.av.flat),.y (.d (.agg (x.av.flat.take 4))),.y (.ptr 0 0),.y (.ptr 0 0),.y (.ptr 0 1),.y (.d (zAc L)),.y (.d (i64 (n : Int))),.y (.d (zBm KK)),.mk ⟨7,zsN,40,zsN.map cst⟩ none] (by kernel_rfl) (by kernel_rfl) (.inr (by kernel_rfl)) ⟨⟨rfl,zAZ rfl⟩,rfl,⟨rfl,zAo rfl⟩,rfl,⟨rfl,zAR rfl fy_1⟩,rfl,⟨rfl,zAU rfl zAn rfl rfl⟩,rfl,⟨rfl,zAE rfl⟩,rfl,⟨rfl,zE8 hx rfl rfl zAW⟩,rfl,⟨rfl,zAf rfl zAY rfl⟩,rfl,⟨rfl,zAZ rfl⟩,rfl,⟨rfl,zAo rfl⟩,rfl,⟨rfl,zAR rfl fy_1⟩,rfl,⟨rfl,zAU rfl zAn rfl rfl⟩,rfl,⟨rfl,zAE rfl⟩,rfl,⟨rfl,zAV zCY hkid (zAX rfl (zAX rfl zAG))⟩,rfl,⟨rfl,rfl,rfl,zAp,by kernel_rfl,rfl⟩,rfl,trivial⟩ ?_)|(apply zHE (id:=29) (ids:=[0,1,2]) (ss:=[.ptr 0 0,.d (zBm KK),.rptr (ival (p1 : Int)).flat,.d (ival (p1 : Int)),.d (tslN N),.d (Lc.av y),.d (.slice [Lc.av y]),.d (.slice (N.map Lc.av ++ [Lc.av y])),.d (zAc r)]) (e:=8);kernel_rfl;kernel_rfl;exact rfl;exact .inr (by kernel_rfl);exact rfl)|apply en_n|apply zAH|apply zAB|apply zAF|apply w0|(apply zHa;exact zAk rfl;(with_reducible exact zBz);exact rfl;exact rfl;exact (by simp);exact zDL N)|(refine zDC (by kernel_rfl) ?_;apply zAx;exact rfl;exact rfl;exact rfl;(with_reducible exact zAY);exact rfl;exact rfl;exact rfl;exact rfl)|(apply zBD;exact rfl;exact rfl;first|assumption|omega)|(apply zA9;exact rfl;exact rfl;first|assumption|omega)|(apply zBU;exact rfl;exact rfl;first|assumption|omega)|exact zAo rfl|(refine zA3 [0,1,2] zDJ (hce0) ?_ rfl rfl (by decide) rfl rfl rfl rfl rfl rfl ?_;(repeat (refine zAL rfl ?_));exact zAS)|(refine zA3 [0,1,2] zSZ (hay) ?_ rfl rfl (by decide) rfl rfl rfl rfl rfl rfl ?_;(repeat (refine zAL rfl ?_));exact zAS)|(refine zAV zFN hvl (zAX rfl (zAX rfl zAG)))|(apply zBE (cs:=Lc.cells ⟨x.text,t,[]⟩);exact zHN;exact zE4;exact PD_d rfl rfl (PD_d rfl rfl (PD_n rfl zB0));exact rfl)|exact zGK|(apply zGw (hb:=zDJ) (hc:=hce1);exact rfl;((repeat (refine zAL rfl ?_));exact zAS);exact rfl;exact rfl;exact (by decide);exact rfl;exact rfl;exact rfl;exact rfl;exact rfl;exact rfl;exact rfl;exact rfl;exact rfl;exact rfl)|(refine zKh rfl rfl rfl rfl ?_ ?_)|apply zFV|exact zGp|(apply zHI;exact hk1;exact rfl;exact rfl;exact zA7)|(apply zJa (ys:=[Lc.av y]);exact rfl;exact zAk rfl;exact rfl;(with_reducible exact zCb);(with_reducible exact zBz);(with_reducible exact zHK);(with_reducible exact zFQ);exact zDL N;exact zCE rfl;exact hcap)|(apply aJ (hd:=rfl);(first|exact zAk rfl|exact Co_bb rfl rfl rfl|exact Co_nn rfl);exact rfl;(with_reducible exact zA7);assumption;omega;exact fun _=>rfl)|(apply zA4 (hd:=rfl) (hro:=rfl);(with_reducible exact zE4))|apply ay (hd:=rfl)|exact zAE rfl|exact zAC rfl|(apply zAg;exact rfl;(with_reducible exact zAs))|(apply zAl;exact rfl;(with_reducible exact zDO))|exact zAb rfl|exact zAZ rfl|(apply zAR;exact rfl;(with_reducible first|exact fy_1|exact fy_3|exact fn_0|exact fn_1))|(apply zAU;exact rfl;(with_reducible first|exact zAn|exact zAe|exact zAv|exact zCj);exact rfl;exact rfl)|(apply zCt;exact rfl;(with_reducible exact zHL);exact rfl;exact rfl;exact rfl)|(apply zCC;(with_reducible exact zCb);(with_reducible exact zBz);(with_reducible exact zHw);exact rfl;exact rfl;(first|exact zAX rfl zAG|exact zC4 rfl rfl rfl zAG|exact zDG rfl zAG);exact rfl)|(refine w0' ?_)|(apply zAx;exact rfl;exact rfl;exact rfl;(with_reducible exact zHL);exact rfl;exact rfl;exact rfl;exact rfl)|(apply zAK;exact rfl)|(apply zAQ;exact rfl)|apply zAI|apply zAP|apply zAM|refine zA6 (by kernel_rfl) (by kernel_rfl) ?_|apply en_r|apply eb_r
  exact zAq (zAO (zAA rfl zAa) (zAD rfl rfl (zAD rfl rfl (zAD rfl rfl zAN))) rfl rfl)
set_option maxHeartbeats 4000000 in
theorem zRx {L : List Nd} {E : List Sg} {q m : Nat} (hL : L.length ≤ 2000000) (ih : zGr L E q m) (n : Nat) (x : Nd) (ks : List Tr) (N : List Lc) (S S' : TS) (r : List Nd) (hk : x.kind = 7) (hm : (Tr.mk x ks).sz ≤ m + 1) (h : At L n (.mk x ks)) (hw : (Tr.mk x ks).werr false = 0) (hz : (Tr.mk x ks).sz ≤ 4500) (hA : Ask E N S (Tr.mk x ks).sz) (h0 : S.er = 0) (a b : Tr) (hks : ks = [a,b]) (hv : a.val = false) (hp : (Tr.mk x ks).expS q E N S = some (r,S')) :
    zA2 Tryz.prog 39 [.ptr 0 0,.d (i64 (n : Int)),.d (locs N)] (tyO L E S) (.d (zAc r)) (tyO L E S'):=by
  have hx:=h.here
  have hlen : n < L.length:=(List.getElem?_eq_some_iff.1 hx).1
  have hkid:=zCd L (n : Int) hL
  subst hks
  have hwk:=(zC7 hw).2
  have hwf:=h.wf
  rw [Tr.wf] at hwf
  have hwf2:=zCW.1 hwf.2
  have hsz : (Tr.mk x [a,b]).sz = a.sz + b.sz + 1:=by simp only [Tr.sz,szL,Nat.add_zero] <;> omega
  have hk0:=h.kids_get (i:=0) (by simp)
  have hat0:=h.kid (i:=0) (k:=a) rfl
  have hw0 : a.werr false = 0:=by simpa [hk] using zBa (j:=0) hwk (k:=a) rfl
  have hf0:=hwf2 a (by simp)
  have hk1:=h.kids_get (i:=1) (by simp)
  have hat1:=h.kid (i:=1) (k:=b) rfl
  have hw1 : b.werr false = 0:=by simpa [hk] using zBa (j:=1) hwk (k:=b) rfl
  have hf1:=hwf2 b (by simp)
  generalize kidAt n [a,b] 0 = p0 at *
  generalize kidAt n [a,b] 1 = p1 at *
  obtain ⟨t,S1,h1,h2⟩:=zTd h0 hk hp
  have hpa:=zBS a
  have hpb:=zBS b
  obtain ⟨b01,b02⟩:=zBj hA.t a.sz a (Nat.le_refl _) hf0 hw0 (by omega) hA.ok h1
  rcases h2 with ⟨h3,_⟩ | ⟨_,h4⟩
  case inl=>rw [hv] at h3;cases h3
  have hlk : LcOk ⟨x.text,t,[]⟩:=⟨by show t.length ≤ _;omega,by simp⟩
  obtain ⟨b11,b12⟩:=zBj hA.t b.sz b (Nat.le_refl _) hf1 hw1 (by omega) (hA.ok.app hlk) h4
  have hA0:=hA.go (Up.refl S) hA.ok (k1:=a.sz) (by omega) (by omega)
  have hA9:=hA.go b01 hA.ok (k1:=1) (by omega) (by omega)
  have hA1:=hA.go b01 (hA.ok.app hlk) (k1:=b.sz) (by simp;omega) (by omega)
  have hce0:=ih p0 a N S S1 t (by omega) hat0 hw0 (by omega) hA0 h1
  have hce1:=ih p1 b (N ++ [⟨x.text,t,[]⟩]) S1 S' r (by omega) hat1 hw1 (by omega) hA1 h4
  rw [show locs (N ++ [⟨x.text,t,[]⟩]) = .slice (N.map Lc.av ++ [Lc.av ⟨x.text,t,[]⟩]) by simp [locs]] at hce1
  have hvl:=zHd L hL a.sz p0 a (Nat.le_refl _) hat0 hw0
  rw [hv] at hvl
  have hcap : ((N.map Lc.av).length + 1) * 64 ≤ 140737488355328 ∧ (N.map Lc.av).length + 1 ≤ 140737488355328:=by have:=hA.n;rw [List.length_map];omega
  clear hp h1 h4 hwk hwf2 hwf
  generalize zBX L (n : Int) = KK at *
  refine zA1 Tryz.func39 rfl Tryz.ntmps39 Tryz.results39 rfl rfl rfl ?_
  intro wb St0 X fx
  repeat' first | (refine zBv (id:=26) (s:=[(0,.ptr 0 0),(2,.d (tslN N)),(7,.ptr 3 0),(8,.d (zBm KK)),(14,.d (zAc t))]) (h:=anch fx 0 (tyO L E S) (tyO L E S1) ++ [ndB x]) (zAO (zAA rfl (zAA rfl (zAA rfl (zAA rfl (zAA rfl zAa))))) (zAD rfl rfl (zAD rfl rfl (zAD rfl rfl (zAD rfl rfl zAN)))) rfl rfl) ?_)|(refine zBv (id:=29) (s:=[(0,.ptr 0 0),(2,.d (tslN N)),(7,.ptr 3 0),(8,.d (zBm KK)),(15,.ptr 4 0)]) (h:=anch fx 0 (tyO L E S) (tyO L E S1) ++ [ndB x,.bx none none ((Lc.cells ⟨x.text,t,[]⟩).map .d)]) (zAO (zAA rfl (zAA rfl (zAA rfl (zAA rfl (zAA rfl zAa))))) (zAD rfl rfl (zAD rfl rfl (zAD rfl rfl (zAD rfl rfl (zAD rfl rfl zAN))))) rfl rfl) ?_)|exact zCg rfl|(refine zBv (id:=5) (s:=[(0,.ptr 0 0),(2,.d (tslN N)),(7,.ptr 3 0),(8,.d (zBm KK))]) (h:=anch fx 0 (tyO L E S) (tyO L E S) ++ [ndB x]) (zAO (zAA rfl (zAA rfl (zAA rfl (zAA rfl zAa)))) (zAD rfl rfl (zAD rfl rfl (zAD rfl rfl (zGq rfl zEQ zAN)))) rfl rfl) ?_)|(refine zB2 (id:=4) [.y (.ptr 0 0),.y (.ptr 0 0),.y (.ptr 0 1),.y (.d (zAc L)),.y (.d (i64 (n : Int))),.y (.rptr x.av.flat),.y (.d (.agg (x.av.flat.take 4))),.y (.ptr 0 0),.y (.ptr 0 0),.y (.ptr 0 1),.y (.d (zAc L)),.y (.d (i64 (n : Int))),.y (.d (zBm KK)),.mk ⟨7,zsN,40,zsN.map cst⟩ none] (by kernel_rfl) (by kernel_rfl) (.inr (by kernel_rfl)) ⟨⟨rfl,zAZ rfl⟩,rfl,⟨rfl,zAo rfl⟩,rfl,⟨rfl,zAR rfl fy_1⟩,rfl,⟨rfl,zAU rfl zAn rfl rfl⟩,rfl,⟨rfl,zAE rfl⟩,rfl,⟨rfl,zE8 hx rfl rfl zAW⟩,rfl,⟨rfl,zAf rfl zAY rfl⟩,rfl,⟨rfl,zAZ rfl⟩,rfl,⟨rfl,zAo rfl⟩,rfl,⟨rfl,zAR rfl fy_1⟩,rfl,⟨rfl,zAU rfl zAn rfl rfl⟩,rfl,⟨rfl,zAE rfl⟩,rfl,⟨rfl,zAV zCY hkid (zAX rfl (zAX rfl zAG))⟩,rfl,⟨rfl,rfl,rfl,zAp,by kernel_rfl,rfl⟩,rfl,trivial⟩ ?_)|(apply zHE (id:=29) (ids:=[0,1,2]) (ss:=[.ptr 0 0,.d (zBm KK),.rptr (ival (p1 : Int)).flat,.d (ival (p1 : Int)),.d (tslN N),.d (Lc.av ⟨x.text,t,[]⟩),.d (.slice [Lc.av ⟨x.text,t,[]⟩]),.d (.slice (N.map Lc.av ++ [Lc.av ⟨x.text,t,[]⟩])),.d (zAc r)]) (e:=8);kernel_rfl;kernel_rfl;exact rfl;exact .inr (by kernel_rfl);exact rfl)|apply en_n|apply zAH|apply zAB|apply zAF|apply w0|(apply zHa;exact zAk rfl;(with_reducible exact zBz);exact rfl;exact rfl;exact (by simp);exact zDL N)|(refine zDC (by kernel_rfl) ?_;apply zAx;exact rfl;exact rfl;exact rfl;(with_reducible exact zAY);exact rfl;exact rfl;exact rfl;exact rfl)|(apply zBD;exact rfl;exact rfl;first|assumption|omega)|(apply zA9;exact rfl;exact rfl;first|assumption|omega)|(apply zBU;exact rfl;exact rfl;first|assumption|omega)|exact zAo rfl|(refine zA3 [0,1,2] zDJ (hce0) ?_ rfl rfl (by decide) rfl rfl rfl rfl rfl rfl ?_;(repeat (refine zAL rfl ?_));exact zAS)|(refine zAV zFN hvl (zAX rfl (zAX rfl zAG)))|(apply zBE (cs:=Lc.cells ⟨x.text,t,[]⟩);exact zHN;exact zE4;exact PD_d rfl rfl (PD_d rfl rfl (PD_n rfl zB0));exact rfl)|exact zGK|(apply zGw (hb:=zDJ) (hc:=hce1);exact rfl;((repeat (refine zAL rfl ?_));exact zAS);exact rfl;exact rfl;exact (by decide);exact rfl;exact rfl;exact rfl;exact rfl;exact rfl;exact rfl;exact rfl;exact rfl;exact rfl;exact rfl)|(refine zKh rfl rfl rfl rfl ?_ ?_)|apply zFV|exact zGp|(apply zHI;exact hk1;exact rfl;exact rfl;exact zA7)|(apply zJa (ys:=[Lc.av ⟨x.text,t,[]⟩]);exact rfl;exact zAk rfl;exact rfl;(with_reducible exact zCb);(with_reducible exact zBz);(with_reducible exact zHK);(with_reducible exact zFQ);exact zDL N;exact zCE rfl;exact hcap)|(apply aJ (hd:=rfl);(first|exact zAk rfl|exact Co_bb rfl rfl rfl|exact Co_nn rfl);exact rfl;(with_reducible exact zA7);assumption;omega;exact fun _=>rfl)|(apply zA4 (hd:=rfl) (hro:=rfl);(with_reducible exact zE4))|apply ay (hd:=rfl)|exact zAE rfl|exact zAC rfl|(apply zAg;exact rfl;(with_reducible exact zAs))|(apply zAl;exact rfl;(with_reducible exact zDO))|exact zAb rfl|exact zAZ rfl|(apply zAR;exact rfl;(with_reducible first|exact fy_1|exact fy_3|exact fn_0|exact fn_1))|(apply zAU;exact rfl;(with_reducible first|exact zAn|exact zAe|exact zAv|exact zCj);exact rfl;exact rfl)|(apply zCt;exact rfl;(with_reducible exact zHL);exact rfl;exact rfl;exact rfl)|(apply zCC;(with_reducible exact zCb);(with_reducible exact zBz);(with_reducible exact zHw);exact rfl;exact rfl;(first|exact zAX rfl zAG|exact zC4 rfl rfl rfl zAG|exact zDG rfl zAG);exact rfl)|(refine w0' ?_)|(apply zAx;exact rfl;exact rfl;exact rfl;(with_reducible exact zHL);exact rfl;exact rfl;exact rfl;exact rfl)|(apply zAK;exact rfl)|(apply zAQ;exact rfl)|apply zAI|apply zAP|apply zAM|refine zA6 (by kernel_rfl) (by kernel_rfl) ?_|apply en_r|apply eb_r
  exact zAq (zAO (zAA rfl zAa) (zAD rfl rfl (zAD rfl rfl (zAD rfl rfl zAN))) rfl rfl)
theorem zTa {L : List Nd} {E : List Sg} {q m : Nat} (hL : L.length ≤ 2000000) (ih : zGr L E q m) (n : Nat) (x : Nd) (ks : List Tr) (N : List Lc) (S S' : TS) (r : List Nd) (hk : x.kind = 7) (hm : (Tr.mk x ks).sz ≤ m + 1) (h : At L n (.mk x ks)) (hw : (Tr.mk x ks).werr false = 0) (hz : (Tr.mk x ks).sz ≤ 4500) (hA : Ask E N S (Tr.mk x ks).sz) (h0 : S.er = 0) (hp : (Tr.mk x ks).expS q E N S = some (r,S')) :
    zA2 Tryz.prog 39 [.ptr 0 0,.d (i64 (n : Int)),.d (locs N)] (tyO L E S) (.d (zAc r)) (tyO L E S'):=by
  obtain ⟨a,b,hks⟩:=zHO h.wf (by have:=(zDA hw).2;rw [hk] at this;simpa [cntK] using this)
  cases hv : a.val with
  | true=>exact zRw hL ih n x ks N S S' r hk hm h hw hz hA h0 a b hks hv hp
  | false=>exact zRx hL ih n x ks N S S' r hk hm h hw hz hA h0 a b hks hv hp
end Go.Proofs.YtblomnkamngnbaaGreatDoor
