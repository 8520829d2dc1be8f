/- Texts of this claim, merged: InfS, RefB1. -/
import Derived.Test.YtblomnkamngnbaaGreatDoorMBJ
import Derived.Test.YtblomnkamngnbaaGreatDoorMBO
namespace Go.Proofs.YtblomnkamngnbaaGreatDoor
open Go.Sx
attribute [local irreducible] zAT Program.underlying Ylds zBA alex zBe zBP awp zAj zBZ zBk zA2 zBH zBR zA8 zBV zBb zBf zBu zBO zEL VCall segC
set_option maxHeartbeats 4000000 in
theorem zQA {L : List Nd} {E : List Sg} {q m : Nat} (hL : L.length ≤ 2000000) (ih : zGr L E q m) (n : Nat) (x : Nd) (ks : List Tr) (N : List Lc) (S S' : TS) (r : List Nd) (hk : x.kind = 11) (hm : (Tr.mk x ks).sz ≤ m + 1) (h : At L n (.mk x ks)) (hw : (Tr.mk x ks).werr false = 0) (hz : (Tr.mk x ks).sz ≤ 4500) (hA : Ask E N S (Tr.mk x ks).sz) (h0 : S.er = 0) (hp : (Tr.mk x ks).expS q E N S = some (r,S')) :
    zA2 Tryz.prog 39 [.ptr 0 0,.d (i64 (n : Int)),.d (locs N)] (tyO L E S) (.d (zAc r)) (tyO L E S'):=by
  have hx:=h.here
  have hlen : n < L.length:=(List.getElem?_eq_some_iff.1 hx).1
  have hkid:=zCd L (n : Int) hL
  obtain ⟨a,rfl⟩:=zNE h.wf (by have:=(zDA hw).2;rw [hk] at this;simpa [cntK] using this)
  have hwk:=(zC7 hw).2
  have hwf:=h.wf
  rw [Tr.wf] at hwf
  have hwf2:=zCW.1 hwf.2
  have hsz : (Tr.mk x [a]).sz = a.sz + 1:=by simp only [Tr.sz,szL,Nat.add_zero] <;> omega
  have hk0:=h.kids_get (i:=0) (by simp)
  have hat0:=h.kid (i:=0) (k:=a) rfl
  have hw0 : a.werr false = 0:=by simpa [hk] using zBa (j:=0) hwk (k:=a) rfl
  have hf0:=hwf2 a (by simp)
  generalize kidAt n [a] 0 = p0 at *
  obtain ⟨t,S1,S2,h1,h2,rfl,rfl⟩:=zSf h0 hk hp
  have hpa:=zBS a
  obtain ⟨b01,b02⟩:=zBj hA.t a.sz a (Nat.le_refl _) hf0 hw0 (by omega) hA.ok h1
  have hA0:=hA.go (Up.refl S) hA.ok (k1:=a.sz) (by omega) (by omega)
  have hA9:=hA.go b01 hA.ok (k1:=1) (by omega) (by omega)
  have hA8:=hA.go (b01.trans (zCD h2)) hA.ok (k1:=1) (by omega) (by omega)
  have hpl:=zEK intT
  have hce0:=ih p0 a N S S1 t (by omega) hat0 hw0 (by omega) hA0 h1
  have hsm:=zDD L E S1 S2 q t (zBp intT) (by omega) (by simp [zBp]) hA9.st h2
  have hnx:=zFG L E S2 (by have:=hA8.nx;omega)
  clear hp h1 h2 hwk hwf2 hwf
  generalize zBX L (n : Int) = KK at *
  refine zA1 Tryz.func39 rfl Tryz.ntmps39 Tryz.results39 rfl rfl rfl ?_
  intro wb St0 X fx
  repeat' first | exact zCg rfl|(refine zBv (id:=5) (s:=[(0,.ptr 0 0),(2,.d (tslN N)),(7,.ptr 3 0),(8,.d (zBm KK))]) (h:=anch fx 0 (tyO L E S) (tyO L E S) ++ [ndB x]) (zAO (zAA rfl (zAA rfl (zAA rfl (zAA rfl zAa)))) (zAD rfl rfl (zAD rfl rfl (zAD rfl rfl (zGq rfl zEQ zAN)))) rfl rfl) ?_)|(refine zB2 (id:=4) [.y (.ptr 0 0),.y (.ptr 0 0),.y (.ptr 0 1),.y (.d (zAc L)),.y (.d (i64 (n : Int))),.y (.rptr x.av.flat),.y (.d (.agg (x.av.flat.take 4))),.y (.ptr 0 0),.y (.ptr 0 0),.y (.ptr 0 1),.y (.d (zAc L)),.y (.d (i64 (n : Int))),.y (.d (zBm KK)),.mk ⟨7,zsN,40,zsN.map cst⟩ none] (by kernel_rfl) (by kernel_rfl) (.inr (by kernel_rfl)) ⟨⟨rfl,zAZ rfl⟩,rfl,⟨rfl,zAo rfl⟩,rfl,⟨rfl,zAR rfl fy_1⟩,rfl,⟨rfl,zAU rfl zAn rfl rfl⟩,rfl,⟨rfl,zAE rfl⟩,rfl,⟨rfl,zE8 hx rfl rfl zAW⟩,rfl,⟨rfl,zAf rfl zAY rfl⟩,rfl,⟨rfl,zAZ rfl⟩,rfl,⟨rfl,zAo rfl⟩,rfl,⟨rfl,zAR rfl fy_1⟩,rfl,⟨rfl,zAU rfl zAn rfl rfl⟩,rfl,⟨rfl,zAE rfl⟩,rfl,⟨rfl,zAV zCY hkid (zAX rfl (zAX rfl zAG))⟩,rfl,⟨rfl,rfl,rfl,zAp,by kernel_rfl,rfl⟩,rfl,trivial⟩ ?_)|apply en_n|apply zAH|apply zAB|apply zAF|apply w0|(apply zHa;exact zAk rfl;(with_reducible exact zBz);exact rfl;exact rfl;exact (by simp);exact zDL N)|(refine zDC (by kernel_rfl) ?_;apply zAx;exact rfl;exact rfl;exact rfl;(with_reducible exact zAY);exact rfl;exact rfl;exact rfl;exact rfl)|(apply zBD;exact rfl;exact rfl;first|assumption|omega)|(apply zA9;exact rfl;exact rfl;first|assumption|omega)|(apply zBU;exact rfl;exact rfl;first|assumption|omega)|exact zAo rfl|(refine zA3 [0,1,2] zDJ (hce0) ?_ rfl rfl (by decide) rfl rfl rfl rfl rfl rfl ?_;(repeat (refine zAL rfl ?_));exact zAS)|(refine zA3 [0,1,2] zCQ (hsm) ?_ rfl rfl (by decide) rfl rfl rfl rfl rfl rfl ?_;(repeat (refine zAL rfl ?_));exact zAS)|(refine zA3 [0,1,2] zEA (hnx) ?_ rfl rfl (by decide) rfl rfl rfl rfl rfl rfl ?_;(repeat (refine zAL rfl ?_));exact zAS)|(refine zAV zDt hpl (zAX rfl zAG))|(apply aJ (hd:=rfl);(first|exact zAk rfl|exact Co_bb rfl rfl rfl|exact Co_nn rfl);exact rfl;(with_reducible exact zA7);assumption;omega;exact fun _=>rfl)|apply ay (hd:=rfl)|exact zAE rfl|exact zAC rfl|(apply zAg;exact rfl;(with_reducible exact zAs))|(apply zAl;exact rfl;(with_reducible exact zDO))|exact zAb rfl|exact zAZ rfl|(apply zAR;exact rfl;(with_reducible first|exact fy_3|exact fn_0))|(apply zAU;exact rfl;(with_reducible first|exact zAe|exact zCj);exact rfl;exact rfl)|(refine w0' ?_)|(apply zAK;exact rfl)|(apply zAQ;exact rfl)|apply zAI|apply zAP|apply zAM|apply en_r|apply eb_r
  exact zAq (zAO (zAA rfl zAa) (zAD rfl rfl (zAD rfl rfl (zAD rfl rfl zAN))) rfl rfl)
set_option maxHeartbeats 4000000 in
theorem zTY {L : List Nd} {E : List Sg} {q m : Nat} (hL : L.length ≤ 2000000) (ih : zGr L E q m) (n : Nat) (x : Nd) (ks : List Tr) (N : List Lc) (S S' : TS) (r : List Nd) (hk : x.kind = 12) (hm : (Tr.mk x ks).sz ≤ m + 1) (h : At L n (.mk x ks)) (hw : (Tr.mk x ks).werr false = 0) (hz : (Tr.mk x ks).sz ≤ 4500) (hA : Ask E N S (Tr.mk x ks).sz) (h0 : S.er = 0) (hp : (Tr.mk x ks).expS q E N S = some (r,S')) :
    zA2 Tryz.prog 39 [.ptr 0 0,.d (i64 (n : Int)),.d (locs N)] (tyO L E S) (.d (zAc r)) (tyO L E S'):=by
  have hx:=h.here
  have hlen : n < L.length:=(List.getElem?_eq_some_iff.1 hx).1
  have hkid:=zCd L (n : Int) hL
  obtain ⟨a,b,rfl⟩:=zHO h.wf (by have:=(zDA hw).2;rw [hk] at this;simpa [cntK] using this)
  have hwk:=(zC7 hw).2
  have hwf:=h.wf
  rw [Tr.wf] at hwf
  have hwf2:=zCW.1 hwf.2
  have hsz : (Tr.mk x [a,b]).sz = a.sz + b.sz + 1:=by simp only [Tr.sz,szL,Nat.add_zero] <;> omega
  have hk0:=h.kids_get (i:=0) (by simp)
  have hat0:=h.kid (i:=0) (k:=a) rfl
  have hw0 : a.werr false = 0:=by simpa [hk] using zBa (j:=0) hwk (k:=a) rfl
  have hf0:=hwf2 a (by simp)
  have hk1:=h.kids_get (i:=1) (by simp)
  have hat1:=h.kid (i:=1) (k:=b) rfl
  have hw1 : b.werr false = 0:=by simpa [hk] using zBa (j:=1) hwk (k:=b) rfl
  have hf1:=hwf2 b (by simp)
  generalize kidAt n [a,b] 0 = p0 at *
  generalize kidAt n [a,b] 1 = p1 at *
  obtain ⟨S1,u,S2,h1,h2,h3⟩:=zSe h0 hk hp
  have hpa:=zBS a
  have hpb:=zBS b
  have hlk : LcOk ⟨x.text,zBp intT,[]⟩:=⟨by simp [zBp],by simp⟩
  obtain ⟨b01,b02⟩:=zBj hA.t a.sz a (Nat.le_refl _) hf0 hw0 (by omega) hA.ok h1
  obtain ⟨b11,b12⟩:=zBj hA.t b.sz b (Nat.le_refl _) hf1 hw1 (by omega) (hA.ok.app hlk) h2
  have hA0:=hA.go (Up.refl S) hA.ok (k1:=a.sz) (by omega) (by omega)
  have hA1:=hA.go b01 (hA.ok.app hlk) (k1:=b.sz) (by simp;omega) (by omega)
  have hA2:=hA.go (b01.trans b11) hA.ok (k1:=1) (by omega) (by omega)
  have hpl:=zEK intT
  have hce0:=ih p0 a N S S1 r (by omega) hat0 hw0 (by omega) hA0 h1
  have hce1:=ih p1 b (N ++ [⟨x.text,zBp intT,[]⟩]) S1 S2 u (by omega) hat1 hw1 (by omega) hA1 h2
  rw [show locs (N ++ [⟨x.text,zBp intT,[]⟩]) = .slice (N.map Lc.av ++ [Lc.av ⟨x.text,zBp intT,[]⟩]) by simp [locs]] at hce1
  have hsm:=zDD L E S2 S' q r u (by omega) (by omega) hA2.st h3
  have hcap : ((N.map Lc.av).length + 1) * 64 ≤ 140737488355328 ∧ (N.map Lc.av).length + 1 ≤ 140737488355328:=by have:=hA.n;rw [List.length_map];omega
  clear hp h1 h2 h3 hwk hwf2 hwf
  generalize zBX L (n : Int) = KK at *
  refine zA1 Tryz.func39 rfl Tryz.ntmps39 Tryz.results39 rfl rfl rfl ?_
  intro wb St0 X fx
  repeat' first | (refine zBv (id:=5) (s:=[(0,.ptr 0 0),(2,.d (tslN N)),(7,.ptr 3 0),(8,.d (zBm KK))]) (h:=anch fx 0 (tyO L E S) (tyO L E S) ++ [ndB x]) (zAO (zAA rfl (zAA rfl (zAA rfl (zAA rfl zAa)))) (zAD rfl rfl (zAD rfl rfl (zAD rfl rfl (zGq rfl zEQ zAN)))) rfl rfl) ?_)|(refine zB2 (id:=4) [.y (.ptr 0 0),.y (.ptr 0 0),.y (.ptr 0 1),.y (.d (zAc L)),.y (.d (i64 (n : Int))),.y (.rptr x.av.flat),.y (.d (.agg (x.av.flat.take 4))),.y (.ptr 0 0),.y (.ptr 0 0),.y (.ptr 0 1),.y (.d (zAc L)),.y (.d (i64 (n : Int))),.y (.d (zBm KK)),.mk ⟨7,zsN,40,zsN.map cst⟩ none] (by kernel_rfl) (by kernel_rfl) (.inr (by kernel_rfl)) ⟨⟨rfl,zAZ rfl⟩,rfl,⟨rfl,zAo rfl⟩,rfl,⟨rfl,zAR rfl fy_1⟩,rfl,⟨rfl,zAU rfl zAn rfl rfl⟩,rfl,⟨rfl,zAE rfl⟩,rfl,⟨rfl,zE8 hx rfl rfl zAW⟩,rfl,⟨rfl,zAf rfl zAY rfl⟩,rfl,⟨rfl,zAZ rfl⟩,rfl,⟨rfl,zAo rfl⟩,rfl,⟨rfl,zAR rfl fy_1⟩,rfl,⟨rfl,zAU rfl zAn rfl rfl⟩,rfl,⟨rfl,zAE rfl⟩,rfl,⟨rfl,zAV zCY hkid (zAX rfl (zAX rfl zAG))⟩,rfl,⟨rfl,rfl,rfl,zAp,by kernel_rfl,rfl⟩,rfl,trivial⟩ ?_)|(apply zHD (id:=44) (ids:=[0,1,2]) (ss:=[.ptr 0 0,.d (zAc r),.ptr 0 0,.d (zBm KK),.rptr (ival (p1 : Int)).flat,.d (ival (p1 : Int)),.d (tslN N),.ptr 3 (0 + 1),.d (str x.text),.d (zAc (zBp intT)),.d (Lc.av ⟨x.text,zBp intT,[]⟩),.d (.slice [Lc.av ⟨x.text,zBp intT,[]⟩]),.d (.slice (N.map Lc.av ++ [Lc.av ⟨x.text,zBp intT,[]⟩])),.d (zAc u),.top]) (e:=13) (f:=14);kernel_rfl;kernel_rfl;exact rfl;exact .inl rfl;exact rfl;exact rfl;exact rfl;kernel_rfl)|apply en_n|apply zAH|apply zAB|apply zAF|apply w0|(apply zCg (dst:=some 226);exact rfl)|(apply zHa;exact zAk rfl;(with_reducible exact zBz);exact rfl;exact rfl;exact (by simp);exact zDL N)|(refine zDC (by kernel_rfl) ?_;apply zAx;exact rfl;exact rfl;exact rfl;(with_reducible exact zAY);exact rfl;exact rfl;exact rfl;exact rfl)|(apply zBD;exact rfl;exact rfl;first|assumption|omega)|(apply zA9;exact rfl;exact rfl;first|assumption|omega)|(apply zBU;exact rfl;exact rfl;first|assumption|omega)|exact zAo rfl|(refine zA3 [0,1,2] zDJ (hce0) ?_ rfl rfl (by decide) rfl rfl rfl rfl rfl rfl ?_;(repeat (refine zAL rfl ?_));exact zAS)|(refine zAV zDt hpl (zAX rfl zAG))|exact zGK|(apply zGw (hb:=zDJ) (hc:=hce1);exact rfl;((repeat (refine zAL rfl ?_));exact zAS);exact rfl;exact rfl;exact (by decide);exact rfl;exact rfl;exact rfl;exact rfl;exact rfl;exact rfl;exact rfl;exact rfl;exact rfl;exact rfl)|(apply zL4 (hb:=zCQ) (hc:=hsm);exact rfl;((repeat (refine zAL rfl ?_));exact zAS);exact rfl;exact rfl;exact (by decide);exact rfl;exact rfl;exact rfl;exact rfl;exact rfl;exact rfl;exact rfl;exact rfl;exact rfl;exact rfl)|(refine zKh rfl rfl rfl rfl ?_ ?_)|apply zFV|exact zGp|(apply zHI;exact hk1;exact rfl;exact rfl;exact zA7)|(apply zJa (ys:=[Lc.av ⟨x.text,zBp intT,[]⟩]);exact rfl;exact zAk rfl;exact rfl;(with_reducible exact zCb);(with_reducible exact zBz);(with_reducible exact zHK);(with_reducible exact zFQ);exact zDL N;exact zCE rfl;exact hcap)|(apply zBE (cs:=Lc.cells ⟨x.text,zBp intT,[]⟩);exact zHN;exact zE4;exact PD_d rfl rfl (PD_d rfl rfl (PD_n rfl zB0));exact rfl)|(apply aJ (hd:=rfl);(first|exact zAk rfl|exact Co_bb rfl rfl rfl|exact Co_nn rfl);exact rfl;(with_reducible exact zA7);assumption;omega;exact fun _=>rfl)|apply ay (hd:=rfl)|exact zAE rfl|exact zAC rfl|(apply zAg;exact rfl;(with_reducible exact zAs))|(apply zAl;exact rfl;(with_reducible exact zDO))|exact zAb rfl|exact zAZ rfl|(apply zAR;exact rfl;(with_reducible first|exact fy_3|exact fn_0|exact fn_1))|(apply zAU;exact rfl;(with_reducible first|exact zAe|exact zAv|exact zCj);exact rfl;exact rfl)|(apply zCC;(with_reducible exact zCb);(with_reducible exact zBz);(with_reducible exact zHw);exact rfl;exact rfl;(first|exact zAX rfl zAG|exact zC4 rfl rfl rfl zAG|exact zDG rfl zAG);exact rfl)|(refine w0' ?_)|(apply zAK;exact rfl)|(apply zAQ;exact rfl)|apply zAI|apply zAP|apply zAM|apply en_r|apply eb_r
  exact zAq (zAO (zAA rfl zAa) (zAD rfl rfl (zAD rfl rfl (zAD rfl rfl zAN))) rfl rfl)
end Go.Proofs.YtblomnkamngnbaaGreatDoor
namespace Go.Proofs.YtblomnkamngnbaaGreatDoor
open Go.Sx
attribute [local irreducible] zAT Program.underlying Ylds zBA alex zBe zBP awp zAj zBZ zBk zA2 zBH zBR zA8 zBV zBb zBf zBu zBO
set_option maxHeartbeats 8000000 in
theorem zRR (L : List Nd) (n : Nat) (x _y : Nd) (_kx : Int) (pat : Bool) (nm cn : Bool) (hx : L[n]? = some x) (hlen : n < 2000000) (h : x.kind = 1 ∨ x.kind = 23) (hp : patK x.kind = pat)
    (hs : zAj Tryz.prog 82 [i64 x.kind] (i64 0)) (hi : zAj Tryz.prog 46 [i64 x.kind] (bl pat)) (hk : zAj Tryz.prog 83 [i64 x.kind,i64 x.kids] (bl true))
    (_hN : zAj Tryz.prog 20 [str x.text] (bl nm)) (_hC : zAj Tryz.prog 19 [str x.text] (bl cn)) (hW : zAj Tryz.prog 81 [i64 x.num] (i64 (W x.num))) :
    zAj Tryz.prog 45 [zAc L,i64 (n : Int),bl pat] (i64 (genE true false none pat true pat x (False))):=by
  rcases h with h | h <;> cases pat
  all_goals first
    | (exfalso;rw [h] at hp;revert hp;decide)
    | skip
  all_goals
    refine zAd Tryz.func45 rfl Tryz.ntmps45 Tryz.results45 rfl ?_
    intro wb St0
    repeat' first | apply en_n|apply zAH|apply zAB|apply zAF|apply w0|(apply kUd (hd:=rfl);exact rfl;exact rfl)|(apply k1ud (hd:=rfl);exact rfl;exact rfl)|(apply k0ud (hd:=rfl);exact rfl;exact rfl)|(apply k1u (hd:=rfl);exact rfl;exact rfl)|(apply k0u (hd:=rfl);exact rfl;exact rfl)|(apply zBq;exact rfl;exact rfl;first|assumption|omega)|(apply zBD;exact rfl;exact rfl;first|assumption|omega)|(apply zA9;exact rfl;exact rfl;first|assumption|omega)|exact zGm rfl rfl|(apply zFS;exact rfl;exact rfl;with_reducible exact zGE)|(refine zAV zC9 hs (zAX rfl zAG))|(refine zAV zD9 hk (zAX rfl (zAX rfl zAG)))|(refine zAV zC1 hi (zAX rfl zAG))|(refine zAV zNN hW (zAX rfl zAG))|(apply aJ (hd:=rfl);(first|exact zAk rfl|exact Co_bb rfl rfl rfl|exact Co_nn rfl);exact rfl;(with_reducible exact zAW);assumption;omega;exact fun _=>rfl)|(apply zA4 (hd:=rfl) (hro:=rfl);(with_reducible exact zAp))|apply ay (hd:=rfl)|exact zAE rfl|exact zAC rfl|(apply zAf;exact rfl;(with_reducible exact zAY);exact rfl)|exact zEE rfl rfl|exact zBr rfl|exact zAi rfl rfl|exact zAh rfl rfl|(apply zAR;exact rfl;(with_reducible first|exact fn_0|exact fn_1|exact fn_2|exact fn_3))|(apply zAU;exact rfl;(with_reducible first|exact zAs|exact zAe|exact zBK|exact zAv);exact rfl;exact rfl)|(apply w1;exact rfl;exact rfl)|(apply gD;exact rfl;exact rfl;(intro hb);rotate_left;(intro hb);rotate_right)|(refine w0' ?_)|(apply zAx;exact rfl;exact rfl;exact rfl;(with_reducible exact zAY);exact rfl;exact rfl;exact rfl;exact rfl)|(apply zAK;exact rfl)|(apply zAQ;exact rfl)|apply zAP|apply zAM|refine zA6 (by kernel_rfl) (by kernel_rfl) ?_|apply en_r|apply zAJ|(apply res1;exact rfl)
  all_goals try omega
  all_goals clear hs hi hk _hN _hC hW
  all_goals refine zCr ?_
  all_goals first | (simp_all [genE];done) | (simp_all [genE];omega)
set_option maxHeartbeats 8000000 in
theorem zRQ (L : List Nd) (n : Nat) (x _y : Nd) (_kx : Int) (pat : Bool) (nm cn : Bool) (hx : L[n]? = some x) (hlen : n < 2000000) (h : x.kind = 6 ∨ x.kind = 9 ∨ x.kind = 10 ∨ x.kind = 11 ∨ x.kind = 21) (hp : patK x.kind = pat)
    (hs : zAj Tryz.prog 82 [i64 x.kind] (i64 0)) (hi : zAj Tryz.prog 46 [i64 x.kind] (bl pat)) (hk : zAj Tryz.prog 83 [i64 x.kind,i64 x.kids] (bl true))
    (_hN : zAj Tryz.prog 20 [str x.text] (bl nm)) (_hC : zAj Tryz.prog 19 [str x.text] (bl cn)) (_hW : zAj Tryz.prog 81 [i64 x.num] (i64 (W x.num))) :
    zAj Tryz.prog 45 [zAc L,i64 (n : Int),bl pat] (i64 (genE false false none pat true pat x (False))):=by
  cases pat
  all_goals
    refine zAd Tryz.func45 rfl Tryz.ntmps45 Tryz.results45 rfl ?_
    intro wb St0
    repeat' first | apply en_n|apply zAH|apply zAB|apply zAF|apply w0|(apply kUd (hd:=rfl);exact rfl;exact rfl)|(apply k1ud (hd:=rfl);exact rfl;exact rfl)|(apply k0ud (hd:=rfl);exact rfl;exact rfl)|(apply k1u (hd:=rfl);exact rfl;exact rfl)|(apply zBq;exact rfl;exact rfl;first|assumption|omega)|(apply zBD;exact rfl;exact rfl;first|assumption|omega)|(apply zA9;exact rfl;exact rfl;first|assumption|omega)|exact zGm rfl rfl|(apply zFS;exact rfl;exact rfl;with_reducible exact zGE)|(refine zAV zC9 hs (zAX rfl zAG))|(refine zAV zD9 hk (zAX rfl (zAX rfl zAG)))|(refine zAV zC1 hi (zAX rfl zAG))|(apply aJ (hd:=rfl);(first|exact zAk rfl|exact Co_bb rfl rfl rfl|exact Co_nn rfl);exact rfl;(with_reducible exact zAW);assumption;omega;exact fun _=>rfl)|(apply zA4 (hd:=rfl) (hro:=rfl);(with_reducible exact zAp))|apply ay (hd:=rfl)|exact zAE rfl|exact zAC rfl|(apply zAf;exact rfl;(with_reducible exact zAY);exact rfl)|exact zEE rfl rfl|exact zBr rfl|exact zAi rfl rfl|exact zAh rfl rfl|(apply zAR;exact rfl;(with_reducible first|exact fn_0|exact fn_1|exact fn_2|exact fn_3))|(apply zAU;exact rfl;(with_reducible first|exact zAs|exact zAe|exact zBK|exact zAv);exact rfl;exact rfl)|(apply w1;exact rfl;exact rfl)|(apply gD;exact rfl;exact rfl;(intro hb);rotate_left;(intro hb);rotate_right)|(refine w0' ?_)|(apply zAx;exact rfl;exact rfl;exact rfl;(with_reducible exact zAY);exact rfl;exact rfl;exact rfl;exact rfl)|(apply zAK;exact rfl)|(apply zAQ;exact rfl)|apply zAP|apply zAM|refine zA6 (by kernel_rfl) (by kernel_rfl) ?_|apply en_r|apply zAJ|(apply res1;exact rfl)
  all_goals try omega
  all_goals clear hs hi hk _hN _hC _hW
  all_goals refine zCr ?_
  all_goals first | (simp_all [genE];done) | (simp_all [genE];omega)
end Go.Proofs.YtblomnkamngnbaaGreatDoor
