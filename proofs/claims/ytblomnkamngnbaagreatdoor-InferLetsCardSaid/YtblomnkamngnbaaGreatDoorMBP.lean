/- Texts of this claim, merged: InfV, InfW. -/
import Derived.Test.YtblomnkamngnbaaGreatDoorMBL
import Derived.Test.YtblomnkamngnbaaGreatDoorMBM
import Derived.Test.YtblomnkamngnbaaGreatDoorMBN
import Derived.Test.YtblomnkamngnbaaGreatDoorMBO
namespace Go.Proofs.YtblomnkamngnbaaGreatDoor
open Go.Sx
theorem zVH : ∀ (m : Nat) (t : Tr),t.sz ≤ m → t.pv ≤ t.sz
  | 0,t,h=>by have:=zBO t;omega
  | m + 1,.mk x ks,h=>by
    rw [Tr.sz] at h
    have hl : ∀ ks : List Tr,szL ks ≤ m → pvL ks ≤ szL ks:=by
      intro ks
      induction ks with
      | nil=>intro _;simp [pvL]
      | cons k ks ihk =>
        intro h
        rw [szL] at h
        rw [pvL,szL]
        have:=zVH m k (by omega)
        have:=ihk (by omega)
        omega
    have:=hl ks (by omega)
    rw [Tr.pv,Tr.sz]
    split
    · omega
    · split <;> omega
structure MatAt (E : List Sg) (q : Nat) (of' to' : List Nd) (ks : List Tr) (N : List Lc) (S' : TS) (i : Nat) (S : TS) : Prop where
  le : i ≤ ks.length
  odd : i % 2 = 1
  run : expM q E of' to' (ks.drop i) N S = some S'
  ask : Ask E N S (szL (ks.drop i))
theorem MatAt.one {E : List Sg} {q : Nat} {of' to' : List Nd} {x : Nd} {ks : List Tr} {N : List Lc} {S' : TS} {i : Nat} {S : TS} (hk : x.kind = 10) (ho : ks.length % 2 = 1) (hwf : ∀ k ∈ ks,k.wf) (hs : szL ks ≤ 4500) (h : MatAt E q of' to' ks N S' i S) (hi : i < ks.length) (hw : zC6 (decide (x.kind = 10)) false ks 0 = 0) :
    ∃ p k t N1 S1 S2 u S3 S4,ks[i]? = some p ∧ ks[i + 1]? = some k ∧ p.werr true = 0 ∧ k.werr false = 0 ∧ Ask E N S p.sz ∧ p.patS q E N S = some (t,N1,S1) ∧ t.length ≤ 10000 ∧ StoB S1.st ∧ zCy q S1 t of' = some S2 ∧ Ask E N1 S2 k.sz ∧ k.expS q E N1 S2 = some (u,S3) ∧ u.length ≤ 10000 ∧ StoB S3.st ∧ zCy q S3 u to' = some S4 ∧ MatAt E q of' to' ks N S' (i + 2) S4 ∧ (p.pv = 0 → N1 = N):=by
  have hod:=h.odd
  have hi1 : i + 1 < ks.length:=by omega
  have hp : ks[i]? = some ks[i]:=List.getElem?_eq_getElem hi
  have hkk : ks[i + 1]? = some ks[i + 1]:=List.getElem?_eq_getElem hi1
  have hwp:=hwf _ (List.getElem_mem hi)
  have hwk:=hwf _ (List.getElem_mem hi1)
  have hrun:=h.run
  have hA:=h.ask
  rw [List.drop_eq_getElem_cons hi,List.drop_eq_getElem_cons hi1] at hrun
  rw [zDe hp,zDe hkk] at hA
  have hsp:=zCw (List.mem_of_getElem? hp)
  have hsk:=zCw (List.mem_of_getElem? hkk)
  have v1:=zBB (j:=i) hw hp
  have v2:=zBB (j:=i + 1) hw hkk
  have e1 : (false || (decide (x.kind = 10) && decide ((0 + i) % 2 = 1))) = true:=by simp [hk];omega
  have e2 : (false || (decide (x.kind = 10) && decide ((0 + (i + 1)) % 2 = 1))) = false:=by simp [hk];omega
  rw [e1] at v1
  rw [e2] at v2
  generalize ks[i] = p at *
  generalize ks[i + 1] = k at *
  have e3 : i + 2 = i + 1 + 1:=rfl
  obtain ⟨t,N1,S1,S2,u,S3,S4,g1,g2,g3,g4,g5⟩:=zVn hrun
  obtain ⟨a1,a2,a3,M,a4,a5⟩:=zKA hA.t p.sz p (Nat.le_refl _) v1 hA.ok g1
  have hpv:=zVH p.sz p (Nat.le_refl _)
  have hpp:=zBO p
  have hpk:=zBO k
  obtain ⟨b1,b2⟩:=zBi hA.t k.sz k (Nat.le_refl _) hwk v2 (by omega) a3 g3
  have c1:=a1.trans (zCB g2)
  have c2:=c1.trans b1
  have c3:=c2.trans (zCB g4)
  have hN1 : N1.length = N.length + p.pv:=by rw [a4,List.length_append,a5]
  have hn:=hA.n
  have hx:=hA.nx
  refine ⟨p,k,t,N1,S1,S2,u,S3,S4,hp,hkk,v1,v2,⟨hA.e,hA.t,by omega,hA.ok,hA.st,by omega⟩,g1,a2,a1.st hA.st,g2,⟨hA.e,hA.t,by omega,a3,c1.st hA.st,by have:=c1.lo;have:=c1.hi;omega⟩,g3,by omega,c2.st hA.st,g4,⟨by omega,by omega,g5,⟨hA.e,hA.t,by rw [e3];omega,hA.ok,c3.st hA.st,by rw [e3];have:=c3.lo;have:=c3.hi;omega⟩⟩,fun h0=>by rw [a4,List.eq_nil_of_length_eq_zero (a5.trans h0),List.append_nil]⟩
attribute [local irreducible] zAO Program.underlying Ylds zA3 alex zBY zBN awp zAm zBT zBe zAx zBA zBP zA2 zBR zBX zBa zBq zBI zET VCall segC
set_option maxHeartbeats 4000000 in
theorem zQ3 {L : List Nd} {E : List Sg} {q m : Nat} (hL : L.length ≤ 2000000) (ih : zHE L E q m) (n : Nat) (x : Nd) (ks : List Tr) (N : List Lc) (S S' : TS) (r : List Nd) (hk : x.kind = 10) (hm : (Tr.mk x ks).sz ≤ m + 1) (h : At L n (.mk x ks)) (hw : (Tr.mk x ks).werr false = 0) (hz : (Tr.mk x ks).sz ≤ 4500) (hA : Ask E N S (Tr.mk x ks).sz) (h0 : S.er = 0) (hp : (Tr.mk x ks).expS q E N S = some (r,S')) :
    zAx Tryz.prog 39 [.ptr 0 0,.d (i64 (n : Int)),.d (locs N)] (tyO L E S) (.d (zAc r)) (tyO L E S'):=by
  have hx:=h.here
  have hlen : n < L.length:=(List.getElem?_eq_some_iff.1 hx).1
  have hkid:=zCm L (n : Int) hL
  have hwk:=(zDC hw).2
  have hwf:=h.wf
  rw [Tr.wf] at hwf
  have hwf2:=zCK.1 hwf.2
  have hcn : 3 ≤ x.kids ∧ x.kids % 2 = 1:=by have:=(zC0 hw).2;rw [hk] at this;simpa [cntK] using this
  have hod : ks.length % 2 = 1:=by have:=hwf.1;omega
  have hsz : (Tr.mk x ks).sz = szL ks + 1:=by rw [Tr.sz]
  obtain ⟨a,ha⟩ : ∃ a,ks[0]? = some a:=⟨_,List.getElem?_eq_getElem (by have:=hwf.1;omega)⟩
  obtain ⟨ks',rfl⟩ : ∃ r,ks = a :: r:=by
    cases ks with
    | nil=>simp at ha
    | cons b r=>simp at ha;subst ha;exact ⟨r,rfl⟩
  obtain ⟨t,S1,h1,h2,rfl⟩:=zTr h0 hk hp
  have hpa:=zBO a
  have hat0:=h.kid ha
  have hw0 : a.werr false = 0:=by simpa [hk] using zBB (j:=0) hwk ha
  have hf0:=hwf2 a (by simp)
  have hs2 : szL (a :: ks') = a.sz + szL ks':=by rw [szL]
  obtain ⟨b01,b02⟩:=zBi hA.t a.sz a (Nat.le_refl _) hf0 hw0 (by omega) hA.ok h1
  have hA0:=hA.go (Up.refl S) hA.ok (k1:=a.sz) (by omega) (by omega)
  have hA9:=hA.go b01 hA.ok (k1:=1) (by omega) (by omega)
  have hnx:=zFZ L E S1 (by have:=hA9.nx;omega)
  have hce0:=ih (kidAt n (a :: ks') 0) a N S S1 t (by omega) hat0 hw0 (by omega) hA0 h1
  have hk0:=h.kids_get (i:=0) (by simp)
  have hkl:=h.kids_len
  have hkg : ∀ i,i < (a :: ks').length → (zBn L (n : Int))[i]? = some ((kidAt n (a :: ks') i : Nat) : Int):=fun i hi=>h.kids_get hi
  have hkat : ∀ i k,(a :: ks')[i]? = some k → At L (kidAt n (a :: ks') i) k:=fun i k hik=>h.kid hik
  have hM0 : MatAt E q t (varN S1.nx) (a :: ks') N S' 1 (zB7 S1):=⟨by simp,rfl,h2,hA.go (b01.trans (zCY S1)) hA.ok (by show N.length + szL ks' ≤ _;omega) (by show _ + 5000 * szL ks' ≤ _;omega)⟩
  have hl24 : (a :: ks').length ≤ szL (a :: ks'):=zFU _
  have hLl:=h.len
  have hpat:=zTb (L:=L) (E:=E) (q:=q) hL m
  have hnl : (varN S1.nx).length = 1:=rfl
  generalize (a :: ks') = ks at *
  clear hp h1 h2 hwf
  generalize zBn L (n : Int) = KK at *
  refine zAw Tryz.func39 rfl Tryz.ntmps39 Tryz.results39 rfl rfl rfl ?_
  intro wb St0 X fx
  repeat' first | (refine zBt (id:=47) (s:=[(0,.ptr 0 0),(2,.d (tslN N)),(7,.ptr 3 0),(8,.d (zBv KK)),(19,.d (zAc t))]) (h:=anch fx 0 (tyO L E S) (tyO L E S1) ++ [ndB x]) (zAL (zAA rfl (zAA rfl (zAA rfl (zAA rfl (zAA rfl zAW))))) (zAB rfl rfl (zAB rfl rfl (zAB rfl rfl (zAB rfl rfl zAK)))) rfl rfl) ?_)|(refine zBt (id:=5) (s:=[(0,.ptr 0 0),(2,.d (tslN N)),(7,.ptr 3 0),(8,.d (zBv KK))]) (h:=anch fx 0 (tyO L E S) (tyO L E S) ++ [ndB x]) (zAL (zAA rfl (zAA rfl (zAA rfl (zAA rfl zAW)))) (zAB rfl rfl (zAB rfl rfl (zAB rfl rfl (zHD rfl zEb zAK)))) rfl rfl) ?_)|(refine zB1 (id:=4) [.y (.ptr 0 0),.y (.ptr 0 0),.y (.ptr 0 1),.y (.d (zAc L)),.y (.d (i64 (n : Int))),.y (.rptr x.av.flat),.y (.d (.agg (x.av.flat.take 4))),.y (.ptr 0 0),.y (.ptr 0 0),.y (.ptr 0 1),.y (.d (zAc L)),.y (.d (i64 (n : Int))),.y (.d (zBv KK)),.mk ⟨7,zsN,40,zsN.map cst⟩ none] (by kernel_rfl) (by kernel_rfl) (.inr (by kernel_rfl)) ⟨⟨rfl,zAR rfl⟩,rfl,⟨rfl,zAe rfl⟩,rfl,⟨rfl,zAS rfl fy_1⟩,rfl,⟨rfl,zAV rfl zAg rfl rfl⟩,rfl,⟨rfl,zAE rfl⟩,rfl,⟨rfl,zFN hx rfl rfl zAa⟩,rfl,⟨rfl,zAf rfl zAb rfl⟩,rfl,⟨rfl,zAR rfl⟩,rfl,⟨rfl,zAe rfl⟩,rfl,⟨rfl,zAS rfl fy_1⟩,rfl,⟨rfl,zAV rfl zAg rfl rfl⟩,rfl,⟨rfl,zAE rfl⟩,rfl,⟨rfl,zAX zCj hkid (zAZ rfl (zAZ rfl zAG))⟩,rfl,⟨rfl,rfl,rfl,zAp,by kernel_rfl,rfl⟩,rfl,trivial⟩ ?_)|apply en_n|apply zAH|apply zAC|apply zAF|apply w0|(apply zCq (dst:=some 248);exact rfl)|(apply zHo;exact zAn rfl;(with_reducible exact zBy);exact rfl;exact rfl;exact (by simp);exact zDQ N)|(refine zDF (by kernel_rfl) ?_;apply zA0;exact rfl;exact rfl;exact rfl;(with_reducible exact zAb);exact rfl;exact rfl;exact rfl;exact rfl)|(apply zBW;exact rfl;exact rfl;first|assumption|omega)|(apply zBm;exact rfl;exact rfl;first|assumption|omega)|exact zAe rfl|(refine zAy [0,1,2] zDO (hce0) ?_ rfl rfl (by decide) rfl rfl rfl rfl rfl rfl ?_;(repeat (refine zAI rfl ?_));exact zAM)|(refine zAy [0,1,2] zEL (hnx) ?_ rfl rfl (by decide) rfl rfl rfl rfl rfl rfl ?_;(repeat (refine zAI rfl ?_));exact zAM)|(apply aJ (hd:=rfl);(first|exact zAn rfl|exact Co_bb rfl rfl rfl|exact Co_nn rfl);exact rfl;(with_reducible exact zBD);assumption;omega;exact fun _=>rfl)|apply ay (hd:=rfl)|exact zAE rfl|exact zAD rfl|(apply zAi;exact rfl;(with_reducible exact zAz))|(apply zAr;exact rfl;(with_reducible exact zDS))|exact zAY rfl|exact zAR rfl|(apply zAS;exact rfl;(with_reducible first|exact fy_3|exact fn_0))|(apply zAV;exact rfl;(with_reducible first|exact zAk|exact zCt);exact rfl;exact rfl)|(refine w0' ?_)|(apply zAU;exact rfl)|apply zAJ|apply zAT|apply eb_n
  refine zAs (α:=Nat × TS) (fun p=>MatAt E q t (varN S1.nx) ks N S' p.1 p.2) (fun p=>[(0,.ptr 0 0),(2,.d (tslN N)),(8,.d (zBv KK)),(19,.d (zAc t)),(20,.d (zAc (varN S1.nx))),(21,.d (i64 (p.1 : Int)))]) (fun p=>anch fx 0 (tyO L E S) (tyO L E p.2) ++ [ndB x]) (fun p=>ks.length - p.1) (1,zB7 S1) hM0
    (zAL (zAA rfl (zAA rfl (zAA rfl (zAA rfl (zAA rfl (zAA rfl zAW)))))) (zAB rfl rfl (zAB rfl rfl (zAB rfl rfl (zAB rfl rfl zAK)))) rfl rfl) ?_
  rintro ⟨i,Si⟩ hMi
  dsimp only at hMi ⊢
  rcases Nat.lt_or_ge i ks.length with hlt | hge
  · obtain ⟨p,k,w,N1,S2,S3,u,S4,S5,g1,g2,g3,g4,g5,g6,g7,g8,g9,g10,g11,g12,g13,g14,g15,g16⟩:=hMi.one hk hod hwf2 (by omega) hlt hwk
    have hi1 : i + 1 < ks.length:=(List.getElem?_eq_some_iff.1 g2).1
    have hki:=hkg i hlt
    have hki1 : KK[((i : Int) + 1).toNat]? = some ((kidAt n ks (i + 1) : Nat) : Int):=by
      rw [show ((i : Int) + 1).toNat = i + 1 by omega];exact hkg (i + 1) hi1
    have hlli : (i : Int) < (KK.length : Int):=by omega
    have hps : p.sz ≤ m:=by have:=zCw (List.mem_of_getElem? g1);omega
    have hks : k.sz ≤ m:=by have:=zCw (List.mem_of_getElem? g2);omega
    have hcs:=zDH L E S2 S3 q w t (by omega) (by omega) g8 g9
    have hce:=ih (kidAt n ks (i + 1)) k N1 S3 S4 u hks (hkat _ k g2) g4 (by have:=zCw (List.mem_of_getElem? g2);omega) g10 g11
    have hcs2:=zDH L E S4 S5 q u (varN S1.nx) (by omega) (by omega) g13 g14
    have hb1 : -9223372036854775808 ≤ (i : Int) + 1 ∧ (i : Int) + 1 ≤ 9223372036854775807:=by omega
    have hb2 : -9223372036854775808 ≤ (i : Int) + 2 ∧ (i : Int) + 2 ≤ 9223372036854775807:=by omega
    by_cases hpv : p.pv = 0
    · have hN1:=g16 hpv
      subst hN1
      have hcp:=hpat.a (kidAt n ks i) p N1 N1 Si S2 w hps (hkat i p g1) g3 g5 g6 hpv
      clear hMi hkg hkat g6 g9 g11 g14 hA
      skip
      repeat' first | (refine zBt (id:=52) (s:=[(0,.ptr 0 0),(2,.d (tslN N1)),(8,.d (zBv KK)),(19,.d (zAc t)),(20,.d (zAc (varN S1.nx))),(21,.d (i64 (i : Int))),(22,.d (zAc w)),(23,.d (tslN N1))]) (h:=anch fx 0 (tyO L E S) (tyO L E S2) ++ [ndB x]) (zAL (zAA rfl (zAA rfl (zAA rfl (zAA rfl (zAA rfl (zAA rfl (zAA rfl (zAA rfl zAW)))))))) (zAB rfl rfl (zAB rfl rfl (zAB rfl rfl (zAB rfl rfl zAK)))) rfl rfl) ?_)|apply en_n|apply zAH|apply zAC|apply zAF|apply w0|(apply zCq (dst:=some 279);exact rfl)|(apply zBK;exact rfl;exact rfl;first|assumption|omega)|exact zCV rfl|exact zGJ rfl|exact zGI rfl|(refine zAy [0,1,2] zGQ (hcp) ?_ rfl rfl (by decide) rfl rfl rfl rfl rfl rfl ?_;(repeat (refine zAI rfl ?_));exact zAM)|(refine zAy [0,1,2] zCZ (hcs) ?_ rfl rfl (by decide) rfl rfl rfl rfl rfl rfl ?_;(repeat (refine zAI rfl ?_));exact zAM)|(refine zAy [0,1,2] zDO (hce) ?_ rfl rfl (by decide) rfl rfl rfl rfl rfl rfl ?_;(repeat (refine zAI rfl ?_));exact zAM)|(refine zAy [0,1,2] zCZ (hcs2) ?_ rfl rfl (by decide) rfl rfl rfl rfl rfl rfl ?_;(repeat (refine zAI rfl ?_));exact zAM)|(apply aJ (hd:=rfl);(first|exact zAn rfl|exact Co_bb rfl rfl rfl|exact Co_nn rfl);exact rfl;(with_reducible exact zBD);assumption;omega;exact fun _=>rfl)|apply ay (hd:=rfl)|exact zAE rfl|exact zAD rfl|(apply zAi;exact rfl;(with_reducible exact zAz))|(apply zAr;exact rfl;(with_reducible exact zCU))|(apply zBG;exact rfl;exact rfl)|exact zAR rfl|(apply zAQ;exact rfl)|apply zAJ|apply zAT|apply eb_n
      all_goals first | omega | assumption | skip
      all_goals exact ⟨(i + 2,S5),g15,by show ks.length - (i + 2) < _;omega,zAL (zAA rfl (zAA rfl (zAA rfl (zAA rfl (zAA rfl (Le_d rfl (by simp) zAW)))))) (zAB rfl rfl (zAB rfl rfl (zAB rfl rfl (zAB rfl rfl zAK)))) rfl rfl⟩
    · have hcp:=hpat.b (kidAt n ks i) p N N1 Si S2 w hps (hkat i p g1) g3 g5 g6 hpv
      clear hMi hkg hkat g6 g9 g11 g14 hA
      skip
      repeat' first | (refine zBt (id:=52) (s:=[(0,.ptr 0 0),(2,.d (tslN N)),(8,.d (zBv KK)),(19,.d (zAc t)),(20,.d (zAc (varN S1.nx))),(21,.d (i64 (i : Int))),(22,.d (zAc w)),(23,.buf 4 (lnN N1))]) (h:=anch fx 0 (tyO L E S) (tyO L E S2) ++ [ndB x,bufN N1]) (zAL (zAA rfl (zAA rfl (zAA rfl (zAA rfl (zAA rfl (zAA rfl (zAA rfl (zAA rfl zAW)))))))) (zAB rfl rfl (zAB rfl rfl (zAB rfl rfl (zAB rfl rfl (zAB rfl rfl zAK))))) rfl rfl) ?_)|(refine zPC (id:=51) false 91 3 rfl ?_)|apply en_n|apply zAH|apply zAC|apply zAF|apply w0|(apply zRd (dst:=some 279);exact rfl;exact rfl;exact rfl)|(apply zBK;exact rfl;exact rfl;first|assumption|omega)|exact zCV rfl|exact zGJ rfl|exact zGI rfl|(refine zAy [0,1,2,4] zGQ (hcp) ?_ rfl rfl (by decide) rfl rfl rfl rfl rfl rfl ?_;(repeat (refine zAI rfl ?_));exact zAM)|(refine zAy [0,1,2] zCZ (hcs) ?_ rfl rfl (by decide) rfl rfl rfl rfl rfl rfl ?_;(repeat (refine zAI rfl ?_));exact zAM)|(refine zAy [0,1,2] zDO (hce) ?_ rfl rfl (by decide) rfl rfl rfl rfl rfl rfl ?_;(repeat (refine zAI rfl ?_));exact zAM)|(refine zAy [0,1,2] zCZ (hcs2) ?_ rfl rfl (by decide) rfl rfl rfl rfl rfl rfl ?_;(repeat (refine zAI rfl ?_));exact zAM)|(apply aJ (hd:=rfl);(first|exact zAn rfl|exact Co_bb rfl rfl rfl|exact Co_nn rfl);exact rfl;(with_reducible exact zBD);assumption;omega;exact fun _=>rfl)|apply ay (hd:=rfl)|exact zAE rfl|exact zAD rfl|(apply zAi;exact rfl;(with_reducible exact zAz))|(apply zAr;exact rfl;(with_reducible exact zCU))|(apply zBG;exact rfl;exact rfl)|exact zAj rfl|exact zAR rfl|(apply zAQ;exact rfl)|apply zAJ|apply zAT|apply eb_n
      all_goals first | omega | assumption | skip
      all_goals exact ⟨(i + 2,S5),g15,by show ks.length - (i + 2) < _;omega,zAL (zAA rfl (zAA rfl (zAA rfl (zAA rfl (zAA rfl (Le_d rfl (by simp) zAW)))))) (zAB rfl rfl (zAB rfl rfl (zAB rfl rfl (zAB rfl rfl zAK)))) rfl rfl⟩
  · have hrun:=hMi.run
    rw [List.drop_of_length_le hge,expM.eq_1] at hrun
    injection hrun with hrun;subst hrun
    have hlli : ¬ (i : Int) < (KK.length : Int):=by omega
    skip
    repeat' first | apply en_n|apply zAH|apply zAC|apply zAF|apply w0|(apply zCJ;exact rfl;exact rfl;first|assumption|omega)|apply ay (hd:=rfl)|exact zAE rfl|exact zAD rfl|(apply zAr;exact rfl;(with_reducible exact zCU))|(apply zAU;exact rfl)|apply zAN|apply zAu|apply en_e|apply eb_e
    exact zAh (zAL (zAA rfl zAW) (zAB rfl rfl (zAB rfl rfl (zAB rfl rfl zAK))) rfl rfl)
end Go.Proofs.YtblomnkamngnbaaGreatDoor
namespace Go.Proofs.YtblomnkamngnbaaGreatDoor
open Go.Sx
theorem zTo {L : List Nd} {E : List Sg} {q : Nat} (hL : L.length ≤ 2000000) : ∀ m,zHE L E q m
  | 0=>fun n t N S S' r hm=>by have:=zBO t;omega
  | m + 1=>fun n t N S S' r hm h hw hz hA hp=>by
    have ih:=zTo (E:=E) (q:=q) hL m
    by_cases h0 : S.er = 0
    case neg=>exact zVm n t N S S' r h0 hp
    obtain ⟨x,ks⟩:=t
    obtain ⟨hkk,_⟩:=zC0 hw
    have hc : x.kind = 1 ∨ x.kind = 2 ∨ (x.kind = 3 ∨ x.kind = 4) ∨ x.kind = 5 ∨ x.kind = 6 ∨ x.kind = 7 ∨ x.kind = 8 ∨ x.kind = 9 ∨ x.kind = 10 ∨ x.kind = 11 ∨ x.kind = 12:=by omega
    rcases hc with hk | hk | hk | hk | hk | hk | hk | hk | hk | hk | hk
    · exact zUi hL ih n x ks N S S' r hk hm h hw hz hA h0 hp
    · exact zUe hL ih n x ks N S S' r hk hm h hw hz hA h0 hp
    · exact zUd hL ih n x ks N S S' r hk hm h hw hz hA h0 hp
    · exact zVl hL ih n x ks N S S' r hk hm h hw hz hA h0 hp
    · exact zUj hL ih n x ks N S S' r hk hm h hw hz hA h0 hp
    · exact zUh hL ih n x ks N S S' r hk hm h hw hz hA h0 hp
    · exact zUg hL ih n x ks N S S' r hk hm h hw hz hA h0 hp
    · exact zVk hL ih n x ks N S S' r hk hm h hw hz hA h0 hp
    · exact zQ3 hL ih n x ks N S S' r hk hm h hw hz hA h0 hp
    · exact zQ2 hL ih n x ks N S S' r hk hm h hw hz hA h0 hp
    · exact zUf hL ih n x ks N S S' r hk hm h hw hz hA h0 hp
end Go.Proofs.YtblomnkamngnbaaGreatDoor
