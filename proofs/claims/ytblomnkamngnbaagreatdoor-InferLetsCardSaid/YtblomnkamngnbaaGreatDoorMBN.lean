/- Texts of this claim, merged: InfT. -/
import Derived.Test.YtblomnkamngnbaaGreatDoorMBL
namespace Go.Proofs.YtblomnkamngnbaaGreatDoor
open Go.Sx
attribute [local irreducible] zAO Program.underlying Ylds zA3 alex zBY zBN awp zAm zBT zBe zAx zBA zBP zA2 zBR zBX zBa zBq zBI zET VCall segC
set_option maxHeartbeats 4000000 in
theorem zSy {L : List Nd} {E : List Sg} {q m : Nat} (hL : L.length ≤ 2000000) (ih : zHE L E q m) (n : Nat) (x : Nd) (ks : List Tr) (N : List Lc) (S S' : TS) (r : List Nd) (hk : x.kind = 7) (hm : (Tr.mk x ks).sz ≤ m + 1) (h : At L n (.mk x ks)) (hw : (Tr.mk x ks).werr false = 0) (hz : (Tr.mk x ks).sz ≤ 4500) (hA : Ask E N S (Tr.mk x ks).sz) (h0 : S.er = 0) (a b : Tr) (hks : ks = [a,b]) (hv : a.val = true) (hp : (Tr.mk x ks).expS q E N S = some (r,S')) :
    zAx Tryz.prog 39 [.ptr 0 0,.d (i64 (n : Int)),.d (locs N)] (tyO L E S) (.d (zAc r)) (tyO L E S'):=by
  have hx:=h.here
  have hlen : n < L.length:=(List.getElem?_eq_some_iff.1 hx).1
  have hkid:=zCm L (n : Int) hL
  subst hks
  have hwk:=(zDC hw).2
  have hwf:=h.wf
  rw [Tr.wf] at hwf
  have hwf2:=zCK.1 hwf.2
  have hsz : (Tr.mk x [a,b]).sz = a.sz + b.sz + 1:=by simp only [Tr.sz,szL,Nat.add_zero] <;> omega
  have hk0:=h.kids_get (i:=0) (by simp)
  have hat0:=h.kid (i:=0) (k:=a) rfl
  have hw0 : a.werr false = 0:=by simpa [hk] using zBB (j:=0) hwk (k:=a) rfl
  have hf0:=hwf2 a (by simp)
  have hk1:=h.kids_get (i:=1) (by simp)
  have hat1:=h.kid (i:=1) (k:=b) rfl
  have hw1 : b.werr false = 0:=by simpa [hk] using zBB (j:=1) hwk (k:=b) rfl
  have hf1:=hwf2 b (by simp)
  generalize kidAt n [a,b] 0 = p0 at *
  generalize kidAt n [a,b] 1 = p1 at *
  obtain ⟨t,S1,h1,h2⟩:=zUk h0 hk hp
  have hpa:=zBO a
  have hpb:=zBO b
  obtain ⟨b01,b02⟩:=zBi hA.t a.sz a (Nat.le_refl _) hf0 hw0 (by omega) hA.ok h1
  rcases h2 with ⟨_,y,S2,h3,h4⟩ | ⟨h3,_⟩
  case inr=>rw [hv] at h3;cases h3
  obtain ⟨d1,hlk⟩:=zKl (by omega) h3
  obtain ⟨b11,b12⟩:=zBi hA.t b.sz b (Nat.le_refl _) hf1 hw1 (by omega) (hA.ok.app hlk) h4
  have hA0:=hA.go (Up.refl S) hA.ok (k1:=a.sz) (by omega) (by omega)
  have hA9:=hA.go b01 hA.ok (k1:=1) (by omega) (by omega)
  have hA1:=hA.go (b01.trans d1) (hA.ok.app hlk) (k1:=b.sz) (by simp;omega) (by omega)
  have hce0:=ih p0 a N S S1 t (by omega) hat0 hw0 (by omega) hA0 h1
  have hce1:=ih p1 b (N ++ [y]) S2 S' r (by omega) hat1 hw1 (by omega) hA1 h4
  rw [show locs (N ++ [y]) = .slice (N.map Lc.av ++ [Lc.av y]) by simp [locs]] at hce1
  have hvl:=zHr L hL a.sz p0 a (Nat.le_refl _) hat0 hw0
  rw [hv] at hvl
  have hay:=zTu L E S1 S2 q x.text t N y (by omega) (by have:=hA.n;omega) (fun l hl=>⟨(hA.ok l hl).1,by have:=(hA.ok l hl).2;omega⟩) hA9.st h3
  have hcap : ((N.map Lc.av).length + 1) * 64 ≤ 140737488355328 ∧ (N.map Lc.av).length + 1 ≤ 140737488355328:=by have:=hA.n;rw [List.length_map];omega
  clear hp h1 h4 hwk hwf2 hwf
  generalize zBn L (n : Int) = KK at *
  refine zAw Tryz.func39 rfl Tryz.ntmps39 Tryz.results39 rfl rfl rfl ?_
  intro wb St0 X fx
  repeat' first | (refine zBt (id:=26) (s:=[(0,.ptr 0 0),(2,.d (tslN N)),(7,.ptr 3 0),(8,.d (zBv KK)),(14,.d (zAc t))]) (h:=anch fx 0 (tyO L E S) (tyO L E S1) ++ [ndB x]) (zAL (zAA rfl (zAA rfl (zAA rfl (zAA rfl (zAA rfl zAW))))) (zAB rfl rfl (zAB rfl rfl (zAB rfl rfl (zAB rfl rfl zAK)))) rfl rfl) ?_)|(refine zBt (id:=29) (s:=[(0,.ptr 0 0),(2,.d (tslN N)),(7,.ptr 3 0),(8,.d (zBv KK)),(15,.ptr 4 0)]) (h:=anch fx 0 (tyO L E S) (tyO L E S2) ++ [ndB x,.bx none none ((Lc.cells y).map .d)]) (zAL (zAA rfl (zAA rfl (zAA rfl (zAA rfl (zAA rfl zAW))))) (zAB rfl rfl (zAB rfl rfl (zAB rfl rfl (zAB rfl rfl (zAB rfl rfl zAK))))) rfl rfl) ?_)|exact zCq rfl|(refine zBt (id:=5) (s:=[(0,.ptr 0 0),(2,.d (tslN N)),(7,.ptr 3 0),(8,.d (zBv KK))]) (h:=anch fx 0 (tyO L E S) (tyO L E S) ++ [ndB x]) (zAL (zAA rfl (zAA rfl (zAA rfl (zAA rfl zAW)))) (zAB rfl rfl (zAB rfl rfl (zAB rfl rfl (zHD rfl zEb zAK)))) rfl rfl) ?_)|(refine zB1 (id:=4) [.y (.ptr 0 0),.y (.ptr 0 0),.y (.ptr 0 1),.y (.d (zAc L)),.y (.d (i64 (n : Int))),.y (.rptr x.av.flat),.y (.d (.agg (x.av.flat.take 4))),.y (.ptr 0 0),.y (.ptr 0 0),.y (.ptr 0 1),.y (.d (zAc L)),.y (.d (i64 (n : Int))),.y (.d (zBv KK)),.mk ⟨7,zsN,40,zsN.map cst⟩ none] (by kernel_rfl) (by kernel_rfl) (.inr (by kernel_rfl)) ⟨⟨rfl,zAR rfl⟩,rfl,⟨rfl,zAe rfl⟩,rfl,⟨rfl,zAS rfl fy_1⟩,rfl,⟨rfl,zAV rfl zAg rfl rfl⟩,rfl,⟨rfl,zAE rfl⟩,rfl,⟨rfl,zFN hx rfl rfl zAa⟩,rfl,⟨rfl,zAf rfl zAb rfl⟩,rfl,⟨rfl,zAR rfl⟩,rfl,⟨rfl,zAe rfl⟩,rfl,⟨rfl,zAS rfl fy_1⟩,rfl,⟨rfl,zAV rfl zAg rfl rfl⟩,rfl,⟨rfl,zAE rfl⟩,rfl,⟨rfl,zAX zCj hkid (zAZ rfl (zAZ rfl zAG))⟩,rfl,⟨rfl,rfl,rfl,zAp,by kernel_rfl,rfl⟩,rfl,trivial⟩ ?_)|(apply zHX (id:=29) (ids:=[0,1,2]) (ss:=[.ptr 0 0,.d (zBv KK),.rptr (ival (p1 : Int)).flat,.d (ival (p1 : Int)),.d (tslN N),.d (Lc.av y),.d (.slice [Lc.av y]),.d (.slice (N.map Lc.av ++ [Lc.av y])),.d (zAc r)]) (e:=8);kernel_rfl;kernel_rfl;exact rfl;exact .inr (by kernel_rfl);exact rfl)|apply en_n|apply zAH|apply zAC|apply zAF|apply w0|(apply zHo;exact zAn rfl;(with_reducible exact zBy);exact rfl;exact rfl;exact (by simp);exact zDQ N)|(refine zDF (by kernel_rfl) ?_;apply zA0;exact rfl;exact rfl;exact rfl;(with_reducible exact zAb);exact rfl;exact rfl;exact rfl;exact rfl)|(apply zBV;exact rfl;exact rfl;first|assumption|omega)|(apply zBW;exact rfl;exact rfl;first|assumption|omega)|(apply zBm;exact rfl;exact rfl;first|assumption|omega)|exact zAe rfl|(refine zAy [0,1,2] zDO (hce0) ?_ rfl rfl (by decide) rfl rfl rfl rfl rfl rfl ?_;(repeat (refine zAI rfl ?_));exact zAM)|(refine zAy [0,1,2] zTk (hay) ?_ rfl rfl (by decide) rfl rfl rfl rfl rfl rfl ?_;(repeat (refine zAI rfl ?_));exact zAM)|(refine zAX zFh hvl (zAZ rfl (zAZ rfl zAG)))|(apply zBS (cs:=Lc.cells ⟨x.text,t,[]⟩);exact zHe;exact zFJ;exact PD_d rfl rfl (PD_d rfl rfl (PD_n rfl zCF));exact rfl)|exact zGh|(apply zHM (hb:=zDO) (hc:=hce1);exact rfl;((repeat (refine zAI rfl ?_));exact zAM);exact rfl;exact rfl;exact (by decide);exact rfl;exact rfl;exact rfl;exact rfl;exact rfl;exact rfl;exact rfl;exact rfl;exact rfl;exact rfl)|(refine zLC rfl rfl rfl rfl ?_ ?_)|apply zFs|exact zHB|(apply zHZ;exact hk1;exact rfl;exact rfl;exact zBD)|(apply zJo (ys:=[Lc.av y]);exact rfl;exact zAn rfl;exact rfl;(with_reducible exact zCl);(with_reducible exact zBy);(with_reducible exact zHb);(with_reducible exact zFm);exact zDQ N;exact zCP rfl;exact hcap)|(apply aJ (hd:=rfl);(first|exact zAn rfl|exact Co_bb rfl rfl rfl|exact Co_nn rfl);exact rfl;(with_reducible exact zBD);assumption;omega;exact fun _=>rfl)|(apply zBE (hd:=rfl) (hro:=rfl);(with_reducible exact zFJ))|apply ay (hd:=rfl)|exact zAE rfl|exact zAD rfl|(apply zAi;exact rfl;(with_reducible exact zAz))|(apply zAr;exact rfl;(with_reducible exact zDS))|exact zAY rfl|exact zAR rfl|(apply zAS;exact rfl;(with_reducible first|exact fy_1|exact fy_3|exact fn_0|exact fn_1))|(apply zAV;exact rfl;(with_reducible first|exact zAg|exact zAk|exact zA4|exact zCt);exact rfl;exact rfl)|(apply zC1;exact rfl;(with_reducible exact zHc);exact rfl;exact rfl;exact rfl)|(apply zCD;(with_reducible exact zCl);(with_reducible exact zBy);(with_reducible exact zH8);exact rfl;exact rfl;(first|exact zAZ rfl zAG|exact zCo rfl rfl rfl zAG|exact zCs rfl zAG);exact rfl)|(refine w0' ?_)|(apply zA0;exact rfl;exact rfl;exact rfl;(with_reducible exact zHc);exact rfl;exact rfl;exact rfl;exact rfl)|(apply zAQ;exact rfl)|(apply zAU;exact rfl)|apply zAJ|apply zAT|apply zAN|refine zBQ (by kernel_rfl) (by kernel_rfl) ?_|apply en_r|apply eb_r
  exact zAh (zAL (zAA rfl zAW) (zAB rfl rfl (zAB rfl rfl (zAB rfl rfl zAK))) rfl rfl)
set_option maxHeartbeats 4000000 in
theorem zSz {L : List Nd} {E : List Sg} {q m : Nat} (hL : L.length ≤ 2000000) (ih : zHE L E q m) (n : Nat) (x : Nd) (ks : List Tr) (N : List Lc) (S S' : TS) (r : List Nd) (hk : x.kind = 7) (hm : (Tr.mk x ks).sz ≤ m + 1) (h : At L n (.mk x ks)) (hw : (Tr.mk x ks).werr false = 0) (hz : (Tr.mk x ks).sz ≤ 4500) (hA : Ask E N S (Tr.mk x ks).sz) (h0 : S.er = 0) (a b : Tr) (hks : ks = [a,b]) (hv : a.val = false) (hp : (Tr.mk x ks).expS q E N S = some (r,S')) :
    zAx Tryz.prog 39 [.ptr 0 0,.d (i64 (n : Int)),.d (locs N)] (tyO L E S) (.d (zAc r)) (tyO L E S'):=by
  have hx:=h.here
  have hlen : n < L.length:=(List.getElem?_eq_some_iff.1 hx).1
  have hkid:=zCm L (n : Int) hL
  subst hks
  have hwk:=(zDC hw).2
  have hwf:=h.wf
  rw [Tr.wf] at hwf
  have hwf2:=zCK.1 hwf.2
  have hsz : (Tr.mk x [a,b]).sz = a.sz + b.sz + 1:=by simp only [Tr.sz,szL,Nat.add_zero] <;> omega
  have hk0:=h.kids_get (i:=0) (by simp)
  have hat0:=h.kid (i:=0) (k:=a) rfl
  have hw0 : a.werr false = 0:=by simpa [hk] using zBB (j:=0) hwk (k:=a) rfl
  have hf0:=hwf2 a (by simp)
  have hk1:=h.kids_get (i:=1) (by simp)
  have hat1:=h.kid (i:=1) (k:=b) rfl
  have hw1 : b.werr false = 0:=by simpa [hk] using zBB (j:=1) hwk (k:=b) rfl
  have hf1:=hwf2 b (by simp)
  generalize kidAt n [a,b] 0 = p0 at *
  generalize kidAt n [a,b] 1 = p1 at *
  obtain ⟨t,S1,h1,h2⟩:=zUk h0 hk hp
  have hpa:=zBO a
  have hpb:=zBO b
  obtain ⟨b01,b02⟩:=zBi hA.t a.sz a (Nat.le_refl _) hf0 hw0 (by omega) hA.ok h1
  rcases h2 with ⟨h3,_⟩ | ⟨_,h4⟩
  case inl=>rw [hv] at h3;cases h3
  have hlk : LcOk ⟨x.text,t,[]⟩:=⟨by show t.length ≤ _;omega,by simp⟩
  obtain ⟨b11,b12⟩:=zBi hA.t b.sz b (Nat.le_refl _) hf1 hw1 (by omega) (hA.ok.app hlk) h4
  have hA0:=hA.go (Up.refl S) hA.ok (k1:=a.sz) (by omega) (by omega)
  have hA9:=hA.go b01 hA.ok (k1:=1) (by omega) (by omega)
  have hA1:=hA.go b01 (hA.ok.app hlk) (k1:=b.sz) (by simp;omega) (by omega)
  have hce0:=ih p0 a N S S1 t (by omega) hat0 hw0 (by omega) hA0 h1
  have hce1:=ih p1 b (N ++ [⟨x.text,t,[]⟩]) S1 S' r (by omega) hat1 hw1 (by omega) hA1 h4
  rw [show locs (N ++ [⟨x.text,t,[]⟩]) = .slice (N.map Lc.av ++ [Lc.av ⟨x.text,t,[]⟩]) by simp [locs]] at hce1
  have hvl:=zHr L hL a.sz p0 a (Nat.le_refl _) hat0 hw0
  rw [hv] at hvl
  have hcap : ((N.map Lc.av).length + 1) * 64 ≤ 140737488355328 ∧ (N.map Lc.av).length + 1 ≤ 140737488355328:=by have:=hA.n;rw [List.length_map];omega
  clear hp h1 h4 hwk hwf2 hwf
  generalize zBn L (n : Int) = KK at *
  refine zAw Tryz.func39 rfl Tryz.ntmps39 Tryz.results39 rfl rfl rfl ?_
  intro wb St0 X fx
  repeat' first | (refine zBt (id:=26) (s:=[(0,.ptr 0 0),(2,.d (tslN N)),(7,.ptr 3 0),(8,.d (zBv KK)),(14,.d (zAc t))]) (h:=anch fx 0 (tyO L E S) (tyO L E S1) ++ [ndB x]) (zAL (zAA rfl (zAA rfl (zAA rfl (zAA rfl (zAA rfl zAW))))) (zAB rfl rfl (zAB rfl rfl (zAB rfl rfl (zAB rfl rfl zAK)))) rfl rfl) ?_)|(refine zBt (id:=29) (s:=[(0,.ptr 0 0),(2,.d (tslN N)),(7,.ptr 3 0),(8,.d (zBv KK)),(15,.ptr 4 0)]) (h:=anch fx 0 (tyO L E S) (tyO L E S1) ++ [ndB x,.bx none none ((Lc.cells ⟨x.text,t,[]⟩).map .d)]) (zAL (zAA rfl (zAA rfl (zAA rfl (zAA rfl (zAA rfl zAW))))) (zAB rfl rfl (zAB rfl rfl (zAB rfl rfl (zAB rfl rfl (zAB rfl rfl zAK))))) rfl rfl) ?_)|exact zCq rfl|(refine zBt (id:=5) (s:=[(0,.ptr 0 0),(2,.d (tslN N)),(7,.ptr 3 0),(8,.d (zBv KK))]) (h:=anch fx 0 (tyO L E S) (tyO L E S) ++ [ndB x]) (zAL (zAA rfl (zAA rfl (zAA rfl (zAA rfl zAW)))) (zAB rfl rfl (zAB rfl rfl (zAB rfl rfl (zHD rfl zEb zAK)))) rfl rfl) ?_)|(refine zB1 (id:=4) [.y (.ptr 0 0),.y (.ptr 0 0),.y (.ptr 0 1),.y (.d (zAc L)),.y (.d (i64 (n : Int))),.y (.rptr x.av.flat),.y (.d (.agg (x.av.flat.take 4))),.y (.ptr 0 0),.y (.ptr 0 0),.y (.ptr 0 1),.y (.d (zAc L)),.y (.d (i64 (n : Int))),.y (.d (zBv KK)),.mk ⟨7,zsN,40,zsN.map cst⟩ none] (by kernel_rfl) (by kernel_rfl) (.inr (by kernel_rfl)) ⟨⟨rfl,zAR rfl⟩,rfl,⟨rfl,zAe rfl⟩,rfl,⟨rfl,zAS rfl fy_1⟩,rfl,⟨rfl,zAV rfl zAg rfl rfl⟩,rfl,⟨rfl,zAE rfl⟩,rfl,⟨rfl,zFN hx rfl rfl zAa⟩,rfl,⟨rfl,zAf rfl zAb rfl⟩,rfl,⟨rfl,zAR rfl⟩,rfl,⟨rfl,zAe rfl⟩,rfl,⟨rfl,zAS rfl fy_1⟩,rfl,⟨rfl,zAV rfl zAg rfl rfl⟩,rfl,⟨rfl,zAE rfl⟩,rfl,⟨rfl,zAX zCj hkid (zAZ rfl (zAZ rfl zAG))⟩,rfl,⟨rfl,rfl,rfl,zAp,by kernel_rfl,rfl⟩,rfl,trivial⟩ ?_)|(apply zHX (id:=29) (ids:=[0,1,2]) (ss:=[.ptr 0 0,.d (zBv KK),.rptr (ival (p1 : Int)).flat,.d (ival (p1 : Int)),.d (tslN N),.d (Lc.av ⟨x.text,t,[]⟩),.d (.slice [Lc.av ⟨x.text,t,[]⟩]),.d (.slice (N.map Lc.av ++ [Lc.av ⟨x.text,t,[]⟩])),.d (zAc r)]) (e:=8);kernel_rfl;kernel_rfl;exact rfl;exact .inr (by kernel_rfl);exact rfl)|apply en_n|apply zAH|apply zAC|apply zAF|apply w0|(apply zHo;exact zAn rfl;(with_reducible exact zBy);exact rfl;exact rfl;exact (by simp);exact zDQ N)|(refine zDF (by kernel_rfl) ?_;apply zA0;exact rfl;exact rfl;exact rfl;(with_reducible exact zAb);exact rfl;exact rfl;exact rfl;exact rfl)|(apply zBV;exact rfl;exact rfl;first|assumption|omega)|(apply zBW;exact rfl;exact rfl;first|assumption|omega)|(apply zBm;exact rfl;exact rfl;first|assumption|omega)|exact zAe rfl|(refine zAy [0,1,2] zDO (hce0) ?_ rfl rfl (by decide) rfl rfl rfl rfl rfl rfl ?_;(repeat (refine zAI rfl ?_));exact zAM)|(refine zAX zFh hvl (zAZ rfl (zAZ rfl zAG)))|(apply zBS (cs:=Lc.cells ⟨x.text,t,[]⟩);exact zHe;exact zFJ;exact PD_d rfl rfl (PD_d rfl rfl (PD_n rfl zCF));exact rfl)|exact zGh|(apply zHM (hb:=zDO) (hc:=hce1);exact rfl;((repeat (refine zAI rfl ?_));exact zAM);exact rfl;exact rfl;exact (by decide);exact rfl;exact rfl;exact rfl;exact rfl;exact rfl;exact rfl;exact rfl;exact rfl;exact rfl;exact rfl)|(refine zLC rfl rfl rfl rfl ?_ ?_)|apply zFs|exact zHB|(apply zHZ;exact hk1;exact rfl;exact rfl;exact zBD)|(apply zJo (ys:=[Lc.av ⟨x.text,t,[]⟩]);exact rfl;exact zAn rfl;exact rfl;(with_reducible exact zCl);(with_reducible exact zBy);(with_reducible exact zHb);(with_reducible exact zFm);exact zDQ N;exact zCP rfl;exact hcap)|(apply aJ (hd:=rfl);(first|exact zAn rfl|exact Co_bb rfl rfl rfl|exact Co_nn rfl);exact rfl;(with_reducible exact zBD);assumption;omega;exact fun _=>rfl)|(apply zBE (hd:=rfl) (hro:=rfl);(with_reducible exact zFJ))|apply ay (hd:=rfl)|exact zAE rfl|exact zAD rfl|(apply zAi;exact rfl;(with_reducible exact zAz))|(apply zAr;exact rfl;(with_reducible exact zDS))|exact zAY rfl|exact zAR rfl|(apply zAS;exact rfl;(with_reducible first|exact fy_1|exact fy_3|exact fn_0|exact fn_1))|(apply zAV;exact rfl;(with_reducible first|exact zAg|exact zAk|exact zA4|exact zCt);exact rfl;exact rfl)|(apply zC1;exact rfl;(with_reducible exact zHc);exact rfl;exact rfl;exact rfl)|(apply zCD;(with_reducible exact zCl);(with_reducible exact zBy);(with_reducible exact zH8);exact rfl;exact rfl;(first|exact zAZ rfl zAG|exact zCo rfl rfl rfl zAG|exact zCs rfl zAG);exact rfl)|(refine w0' ?_)|(apply zA0;exact rfl;exact rfl;exact rfl;(with_reducible exact zHc);exact rfl;exact rfl;exact rfl;exact rfl)|(apply zAQ;exact rfl)|(apply zAU;exact rfl)|apply zAJ|apply zAT|apply zAN|refine zBQ (by kernel_rfl) (by kernel_rfl) ?_|apply en_r|apply eb_r
  exact zAh (zAL (zAA rfl zAW) (zAB rfl rfl (zAB rfl rfl (zAB rfl rfl zAK))) rfl rfl)
theorem zUh {L : List Nd} {E : List Sg} {q m : Nat} (hL : L.length ≤ 2000000) (ih : zHE L E q m) (n : Nat) (x : Nd) (ks : List Tr) (N : List Lc) (S S' : TS) (r : List Nd) (hk : x.kind = 7) (hm : (Tr.mk x ks).sz ≤ m + 1) (h : At L n (.mk x ks)) (hw : (Tr.mk x ks).werr false = 0) (hz : (Tr.mk x ks).sz ≤ 4500) (hA : Ask E N S (Tr.mk x ks).sz) (h0 : S.er = 0) (hp : (Tr.mk x ks).expS q E N S = some (r,S')) :
    zAx Tryz.prog 39 [.ptr 0 0,.d (i64 (n : Int)),.d (locs N)] (tyO L E S) (.d (zAc r)) (tyO L E S'):=by
  obtain ⟨a,b,hks⟩:=zFM h.wf (by have:=(zC0 hw).2;rw [hk] at this;simpa [cntK] using this)
  cases hv : a.val with
  | true=>exact zSy hL ih n x ks N S S' r hk hm h hw hz hA h0 a b hks hv hp
  | false=>exact zSz hL ih n x ks N S S' r hk hm h hw hz hA h0 a b hks hv hp
end Go.Proofs.YtblomnkamngnbaaGreatDoor
