/- Texts of this claim, merged: InfV, InfW, TypL, TypM, RefB2. -/
import Derived.Test.YtblomnkamngnbaaGreatDoorMAO
import Derived.Test.YtblomnkamngnbaaGreatDoorMBA
import Derived.Test.YtblomnkamngnbaaGreatDoorMBJ
import Derived.Test.YtblomnkamngnbaaGreatDoorMBK
import Derived.Test.YtblomnkamngnbaaGreatDoorMBO
import Derived.Test.YtblomnkamngnbaaGreatDoorMBP
namespace Go.Proofs.YtblomnkamngnbaaGreatDoor
open Go.Sx
theorem zUG : ∀ (m : Nat) (t : Tr),t.sz ≤ m → t.pv ≤ t.sz
  | 0,t,h=>by have:=zBS t;omega
  | m + 1,.mk x ks,h=>by
    rw [Tr.sz] at h
    have hl : ∀ ks : List Tr,szL ks ≤ m → pvL ks ≤ szL ks:=by
      intro ks
      induction ks with
      | nil=>intro _;simp [pvL]
      | cons k ks ihk =>
        intro h
        rw [szL] at h
        rw [pvL,szL]
        have:=zUG m k (by omega)
        have:=ihk (by omega)
        omega
    have:=hl ks (by omega)
    rw [Tr.pv,Tr.sz]
    split
    · omega
    · split <;> omega
structure MatAt (E : List Sg) (q : Nat) (of' to' : List Nd) (ks : List Tr) (N : List Lc) (S' : TS) (i : Nat) (S : TS) : Prop where
  le : i ≤ ks.length
  odd : i % 2 = 1
  run : expM q E of' to' (ks.drop i) N S = some S'
  ask : Ask E N S (szL (ks.drop i))
theorem MatAt.one {E : List Sg} {q : Nat} {of' to' : List Nd} {x : Nd} {ks : List Tr} {N : List Lc} {S' : TS} {i : Nat} {S : TS} (hk : x.kind = 10) (ho : ks.length % 2 = 1) (hwf : ∀ k ∈ ks,k.wf) (hs : szL ks ≤ 4500) (h : MatAt E q of' to' ks N S' i S) (hi : i < ks.length) (hw : zDc (decide (x.kind = 10)) false ks 0 = 0) :
    ∃ p k t N1 S1 S2 u S3 S4,ks[i]? = some p ∧ ks[i + 1]? = some k ∧ p.werr true = 0 ∧ k.werr false = 0 ∧ Ask E N S p.sz ∧ p.patS q E N S = some (t,N1,S1) ∧ t.length ≤ 10000 ∧ StoB S1.st ∧ zDT q S1 t of' = some S2 ∧ Ask E N1 S2 k.sz ∧ k.expS q E N1 S2 = some (u,S3) ∧ u.length ≤ 10000 ∧ StoB S3.st ∧ zDT q S3 u to' = some S4 ∧ MatAt E q of' to' ks N S' (i + 2) S4 ∧ (p.pv = 0 → N1 = N):=by
  have hod:=h.odd
  have hi1 : i + 1 < ks.length:=by omega
  have hp : ks[i]? = some ks[i]:=List.getElem?_eq_getElem hi
  have hkk : ks[i + 1]? = some ks[i + 1]:=List.getElem?_eq_getElem hi1
  have hwp:=hwf _ (List.getElem_mem hi)
  have hwk:=hwf _ (List.getElem_mem hi1)
  have hrun:=h.run
  have hA:=h.ask
  rw [List.drop_eq_getElem_cons hi,List.drop_eq_getElem_cons hi1] at hrun
  rw [zDZ hp,zDZ hkk] at hA
  have hsp:=zCo (List.mem_of_getElem? hp)
  have hsk:=zCo (List.mem_of_getElem? hkk)
  have v1:=zBa (j:=i) hw hp
  have v2:=zBa (j:=i + 1) hw hkk
  have e1 : (false || (decide (x.kind = 10) && decide ((0 + i) % 2 = 1))) = true:=by simp [hk];omega
  have e2 : (false || (decide (x.kind = 10) && decide ((0 + (i + 1)) % 2 = 1))) = false:=by simp [hk];omega
  rw [e1] at v1
  rw [e2] at v2
  generalize ks[i] = p at *
  generalize ks[i + 1] = k at *
  have e3 : i + 2 = i + 1 + 1:=rfl
  obtain ⟨t,N1,S1,S2,u,S3,S4,g1,g2,g3,g4,g5⟩:=zUl hrun
  obtain ⟨a1,a2,a3,M,a4,a5⟩:=zJv hA.t p.sz p (Nat.le_refl _) v1 hA.ok g1
  have hpv:=zUG p.sz p (Nat.le_refl _)
  have hpp:=zBS p
  have hpk:=zBS k
  obtain ⟨b1,b2⟩:=zBj hA.t k.sz k (Nat.le_refl _) hwk v2 (by omega) a3 g3
  have c1:=a1.trans (zCD g2)
  have c2:=c1.trans b1
  have c3:=c2.trans (zCD g4)
  have hN1 : N1.length = N.length + p.pv:=by rw [a4,List.length_append,a5]
  have hn:=hA.n
  have hx:=hA.nx
  refine ⟨p,k,t,N1,S1,S2,u,S3,S4,hp,hkk,v1,v2,⟨hA.e,hA.t,by omega,hA.ok,hA.st,by omega⟩,g1,a2,a1.st hA.st,g2,⟨hA.e,hA.t,by omega,a3,c1.st hA.st,by have:=c1.lo;have:=c1.hi;omega⟩,g3,by omega,c2.st hA.st,g4,⟨by omega,by omega,g5,⟨hA.e,hA.t,by rw [e3];omega,hA.ok,c3.st hA.st,by rw [e3];have:=c3.lo;have:=c3.hi;omega⟩⟩,fun h0=>by rw [a4,List.eq_nil_of_length_eq_zero (a5.trans h0),List.append_nil]⟩
attribute [local irreducible] zAT Program.underlying Ylds zBA alex zBe zBP awp zAj zBZ zBk zA2 zBH zBR zA8 zBV zBb zBf zBu zBO zEL VCall segC
set_option maxHeartbeats 4000000 in
theorem zQB {L : List Nd} {E : List Sg} {q m : Nat} (hL : L.length ≤ 2000000) (ih : zGr L E q m) (n : Nat) (x : Nd) (ks : List Tr) (N : List Lc) (S S' : TS) (r : List Nd) (hk : x.kind = 10) (hm : (Tr.mk x ks).sz ≤ m + 1) (h : At L n (.mk x ks)) (hw : (Tr.mk x ks).werr false = 0) (hz : (Tr.mk x ks).sz ≤ 4500) (hA : Ask E N S (Tr.mk x ks).sz) (h0 : S.er = 0) (hp : (Tr.mk x ks).expS q E N S = some (r,S')) :
    zA2 Tryz.prog 39 [.ptr 0 0,.d (i64 (n : Int)),.d (locs N)] (tyO L E S) (.d (zAc r)) (tyO L E S'):=by
  have hx:=h.here
  have hlen : n < L.length:=(List.getElem?_eq_some_iff.1 hx).1
  have hkid:=zCd L (n : Int) hL
  have hwk:=(zC7 hw).2
  have hwf:=h.wf
  rw [Tr.wf] at hwf
  have hwf2:=zCW.1 hwf.2
  have hcn : 3 ≤ x.kids ∧ x.kids % 2 = 1:=by have:=(zDA hw).2;rw [hk] at this;simpa [cntK] using this
  have hod : ks.length % 2 = 1:=by have:=hwf.1;omega
  have hsz : (Tr.mk x ks).sz = szL ks + 1:=by rw [Tr.sz]
  obtain ⟨a,ha⟩ : ∃ a,ks[0]? = some a:=⟨_,List.getElem?_eq_getElem (by have:=hwf.1;omega)⟩
  obtain ⟨ks',rfl⟩ : ∃ r,ks = a :: r:=by
    cases ks with
    | nil=>simp at ha
    | cons b r=>simp at ha;subst ha;exact ⟨r,rfl⟩
  obtain ⟨t,S1,h1,h2,rfl⟩:=zSg h0 hk hp
  have hpa:=zBS a
  have hat0:=h.kid ha
  have hw0 : a.werr false = 0:=by simpa [hk] using zBa (j:=0) hwk ha
  have hf0:=hwf2 a (by simp)
  have hs2 : szL (a :: ks') = a.sz + szL ks':=by rw [szL]
  obtain ⟨b01,b02⟩:=zBj hA.t a.sz a (Nat.le_refl _) hf0 hw0 (by omega) hA.ok h1
  have hA0:=hA.go (Up.refl S) hA.ok (k1:=a.sz) (by omega) (by omega)
  have hA9:=hA.go b01 hA.ok (k1:=1) (by omega) (by omega)
  have hnx:=zFG L E S1 (by have:=hA9.nx;omega)
  have hce0:=ih (kidAt n (a :: ks') 0) a N S S1 t (by omega) hat0 hw0 (by omega) hA0 h1
  have hk0:=h.kids_get (i:=0) (by simp)
  have hkl:=h.kids_len
  have hkg : ∀ i,i < (a :: ks').length → (zBX L (n : Int))[i]? = some ((kidAt n (a :: ks') i : Nat) : Int):=fun i hi=>h.kids_get hi
  have hkat : ∀ i k,(a :: ks')[i]? = some k → At L (kidAt n (a :: ks') i) k:=fun i k hik=>h.kid hik
  have hM0 : MatAt E q t (varN S1.nx) (a :: ks') N S' 1 (zCq S1):=⟨by simp,rfl,h2,hA.go (b01.trans (zCP S1)) hA.ok (by show N.length + szL ks' ≤ _;omega) (by show _ + 5000 * szL ks' ≤ _;omega)⟩
  have hl24 : (a :: ks').length ≤ szL (a :: ks'):=zD4 _
  have hLl:=h.len
  have hpat:=zSV (L:=L) (E:=E) (q:=q) hL m
  have hnl : (varN S1.nx).length = 1:=rfl
  generalize (a :: ks') = ks at *
  clear hp h1 h2 hwf
  generalize zBX L (n : Int) = KK at *
  refine zA1 Tryz.func39 rfl Tryz.ntmps39 Tryz.results39 rfl rfl rfl ?_
  intro wb St0 X fx
  repeat' first | (refine zBv (id:=47) (s:=[(0,.ptr 0 0),(2,.d (tslN N)),(7,.ptr 3 0),(8,.d (zBm KK)),(19,.d (zAc t))]) (h:=anch fx 0 (tyO L E S) (tyO L E S1) ++ [ndB x]) (zAO (zAA rfl (zAA rfl (zAA rfl (zAA rfl (zAA rfl zAa))))) (zAD rfl rfl (zAD rfl rfl (zAD rfl rfl (zAD rfl rfl zAN)))) rfl rfl) ?_)|(refine zBv (id:=5) (s:=[(0,.ptr 0 0),(2,.d (tslN N)),(7,.ptr 3 0),(8,.d (zBm KK))]) (h:=anch fx 0 (tyO L E S) (tyO L E S) ++ [ndB x]) (zAO (zAA rfl (zAA rfl (zAA rfl (zAA rfl zAa)))) (zAD rfl rfl (zAD rfl rfl (zAD rfl rfl (zGq rfl zEQ zAN)))) rfl rfl) ?_)|(refine zB2 (id:=4) [.y (.ptr 0 0),.y (.ptr 0 0),.y (.ptr 0 1),.y (.d (zAc L)),.y (.d (i64 (n : Int))),.y (.rptr x.av.flat),.y (.d (.agg (x.av.flat.take 4))),.y (.ptr 0 0),.y (.ptr 0 0),.y (.ptr 0 1),.y (.d (zAc L)),.y (.d (i64 (n : Int))),.y (.d (zBm KK)),.mk ⟨7,zsN,40,zsN.map cst⟩ none] (by kernel_rfl) (by kernel_rfl) (.inr (by kernel_rfl)) ⟨⟨rfl,zAZ rfl⟩,rfl,⟨rfl,zAo rfl⟩,rfl,⟨rfl,zAR rfl fy_1⟩,rfl,⟨rfl,zAU rfl zAn rfl rfl⟩,rfl,⟨rfl,zAE rfl⟩,rfl,⟨rfl,zE8 hx rfl rfl zAW⟩,rfl,⟨rfl,zAf rfl zAY rfl⟩,rfl,⟨rfl,zAZ rfl⟩,rfl,⟨rfl,zAo rfl⟩,rfl,⟨rfl,zAR rfl fy_1⟩,rfl,⟨rfl,zAU rfl zAn rfl rfl⟩,rfl,⟨rfl,zAE rfl⟩,rfl,⟨rfl,zAV zCY hkid (zAX rfl (zAX rfl zAG))⟩,rfl,⟨rfl,rfl,rfl,zAp,by kernel_rfl,rfl⟩,rfl,trivial⟩ ?_)|apply en_n|apply zAH|apply zAB|apply zAF|apply w0|(apply zCg (dst:=some 248);exact rfl)|(apply zHa;exact zAk rfl;(with_reducible exact zBz);exact rfl;exact rfl;exact (by simp);exact zDL N)|(refine zDC (by kernel_rfl) ?_;apply zAx;exact rfl;exact rfl;exact rfl;(with_reducible exact zAY);exact rfl;exact rfl;exact rfl;exact rfl)|(apply zA9;exact rfl;exact rfl;first|assumption|omega)|(apply zBU;exact rfl;exact rfl;first|assumption|omega)|exact zAo rfl|(refine zA3 [0,1,2] zDJ (hce0) ?_ rfl rfl (by decide) rfl rfl rfl rfl rfl rfl ?_;(repeat (refine zAL rfl ?_));exact zAS)|(refine zA3 [0,1,2] zEA (hnx) ?_ rfl rfl (by decide) rfl rfl rfl rfl rfl rfl ?_;(repeat (refine zAL rfl ?_));exact zAS)|(apply aJ (hd:=rfl);(first|exact zAk rfl|exact Co_bb rfl rfl rfl|exact Co_nn rfl);exact rfl;(with_reducible exact zA7);assumption;omega;exact fun _=>rfl)|apply ay (hd:=rfl)|exact zAE rfl|exact zAC rfl|(apply zAg;exact rfl;(with_reducible exact zAs))|(apply zAl;exact rfl;(with_reducible exact zDO))|exact zAb rfl|exact zAZ rfl|(apply zAR;exact rfl;(with_reducible first|exact fy_3|exact fn_0))|(apply zAU;exact rfl;(with_reducible first|exact zAe|exact zCj);exact rfl;exact rfl)|(refine w0' ?_)|(apply zAQ;exact rfl)|apply zAI|apply zAP|apply eb_n
  refine zAr (α:=Nat × TS) (fun p=>MatAt E q t (varN S1.nx) ks N S' p.1 p.2) (fun p=>[(0,.ptr 0 0),(2,.d (tslN N)),(8,.d (zBm KK)),(19,.d (zAc t)),(20,.d (zAc (varN S1.nx))),(21,.d (i64 (p.1 : Int)))]) (fun p=>anch fx 0 (tyO L E S) (tyO L E p.2) ++ [ndB x]) (fun p=>ks.length - p.1) (1,zCq S1) hM0
    (zAO (zAA rfl (zAA rfl (zAA rfl (zAA rfl (zAA rfl (zAA rfl zAa)))))) (zAD rfl rfl (zAD rfl rfl (zAD rfl rfl (zAD rfl rfl zAN)))) rfl rfl) ?_
  rintro ⟨i,Si⟩ hMi
  dsimp only at hMi ⊢
  rcases Nat.lt_or_ge i ks.length with hlt | hge
  · obtain ⟨p,k,w,N1,S2,S3,u,S4,S5,g1,g2,g3,g4,g5,g6,g7,g8,g9,g10,g11,g12,g13,g14,g15,g16⟩:=hMi.one hk hod hwf2 (by omega) hlt hwk
    have hi1 : i + 1 < ks.length:=(List.getElem?_eq_some_iff.1 g2).1
    have hki:=hkg i hlt
    have hki1 : KK[((i : Int) + 1).toNat]? = some ((kidAt n ks (i + 1) : Nat) : Int):=by
      rw [show ((i : Int) + 1).toNat = i + 1 by omega];exact hkg (i + 1) hi1
    have hlli : (i : Int) < (KK.length : Int):=by omega
    have hps : p.sz ≤ m:=by have:=zCo (List.mem_of_getElem? g1);omega
    have hks : k.sz ≤ m:=by have:=zCo (List.mem_of_getElem? g2);omega
    have hcs:=zDD L E S2 S3 q w t (by omega) (by omega) g8 g9
    have hce:=ih (kidAt n ks (i + 1)) k N1 S3 S4 u hks (hkat _ k g2) g4 (by have:=zCo (List.mem_of_getElem? g2);omega) g10 g11
    have hcs2:=zDD L E S4 S5 q u (varN S1.nx) (by omega) (by omega) g13 g14
    have hb1 : -9223372036854775808 ≤ (i : Int) + 1 ∧ (i : Int) + 1 ≤ 9223372036854775807:=by omega
    have hb2 : -9223372036854775808 ≤ (i : Int) + 2 ∧ (i : Int) + 2 ≤ 9223372036854775807:=by omega
    by_cases hpv : p.pv = 0
    · have hN1:=g16 hpv
      subst hN1
      have hcp:=hpat.a (kidAt n ks i) p N1 N1 Si S2 w hps (hkat i p g1) g3 g5 g6 hpv
      clear hMi hkg hkat g6 g9 g11 g14 hA
      skip
      repeat' first | (refine zBv (id:=52) (s:=[(0,.ptr 0 0),(2,.d (tslN N1)),(8,.d (zBm KK)),(19,.d (zAc t)),(20,.d (zAc (varN S1.nx))),(21,.d (i64 (i : Int))),(22,.d (zAc w)),(23,.d (tslN N1))]) (h:=anch fx 0 (tyO L E S) (tyO L E S2) ++ [ndB x]) (zAO (zAA rfl (zAA rfl (zAA rfl (zAA rfl (zAA rfl (zAA rfl (zAA rfl (zAA rfl zAa)))))))) (zAD rfl rfl (zAD rfl rfl (zAD rfl rfl (zAD rfl rfl zAN)))) rfl rfl) ?_)|apply en_n|apply zAH|apply zAB|apply zAF|apply w0|(apply zCg (dst:=some 279);exact rfl)|(apply zA5;exact rfl;exact rfl;first|assumption|omega)|exact zCM rfl|exact zFv rfl|exact zFu rfl|(refine zA3 [0,1,2] zF4 (hcp) ?_ rfl rfl (by decide) rfl rfl rfl rfl rfl rfl ?_;(repeat (refine zAL rfl ?_));exact zAS)|(refine zA3 [0,1,2] zCQ (hcs) ?_ rfl rfl (by decide) rfl rfl rfl rfl rfl rfl ?_;(repeat (refine zAL rfl ?_));exact zAS)|(refine zA3 [0,1,2] zDJ (hce) ?_ rfl rfl (by decide) rfl rfl rfl rfl rfl rfl ?_;(repeat (refine zAL rfl ?_));exact zAS)|(refine zA3 [0,1,2] zCQ (hcs2) ?_ rfl rfl (by decide) rfl rfl rfl rfl rfl rfl ?_;(repeat (refine zAL rfl ?_));exact zAS)|(apply aJ (hd:=rfl);(first|exact zAk rfl|exact Co_bb rfl rfl rfl|exact Co_nn rfl);exact rfl;(with_reducible exact zA7);assumption;omega;exact fun _=>rfl)|apply ay (hd:=rfl)|exact zAE rfl|exact zAC rfl|(apply zAg;exact rfl;(with_reducible exact zAs))|(apply zAl;exact rfl;(with_reducible exact zBw))|(apply zBC;exact rfl;exact rfl)|exact zAZ rfl|(apply zAK;exact rfl)|apply zAI|apply zAP|apply eb_n
      all_goals first | omega | assumption | skip
      all_goals exact ⟨(i + 2,S5),g15,by show ks.length - (i + 2) < _;omega,zAO (zAA rfl (zAA rfl (zAA rfl (zAA rfl (zAA rfl (Le_d rfl (by simp) zAa)))))) (zAD rfl rfl (zAD rfl rfl (zAD rfl rfl (zAD rfl rfl zAN)))) rfl rfl⟩
    · have hcp:=hpat.b (kidAt n ks i) p N N1 Si S2 w hps (hkat i p g1) g3 g5 g6 hpv
      clear hMi hkg hkat g6 g9 g11 g14 hA
      skip
      repeat' first | (refine zBv (id:=52) (s:=[(0,.ptr 0 0),(2,.d (tslN N)),(8,.d (zBm KK)),(19,.d (zAc t)),(20,.d (zAc (varN S1.nx))),(21,.d (i64 (i : Int))),(22,.d (zAc w)),(23,.buf 4 (lnN N1))]) (h:=anch fx 0 (tyO L E S) (tyO L E S2) ++ [ndB x,bufN N1]) (zAO (zAA rfl (zAA rfl (zAA rfl (zAA rfl (zAA rfl (zAA rfl (zAA rfl (zAA rfl zAa)))))))) (zAD rfl rfl (zAD rfl rfl (zAD rfl rfl (zAD rfl rfl (zAD rfl rfl zAN))))) rfl rfl) ?_)|(refine zOW (id:=51) false 91 3 rfl ?_)|apply en_n|apply zAH|apply zAB|apply zAF|apply w0|(apply zQj (dst:=some 279);exact rfl;exact rfl;exact rfl)|(apply zA5;exact rfl;exact rfl;first|assumption|omega)|exact zCM rfl|exact zFv rfl|exact zFu rfl|(refine zA3 [0,1,2,4] zF4 (hcp) ?_ rfl rfl (by decide) rfl rfl rfl rfl rfl rfl ?_;(repeat (refine zAL rfl ?_));exact zAS)|(refine zA3 [0,1,2] zCQ (hcs) ?_ rfl rfl (by decide) rfl rfl rfl rfl rfl rfl ?_;(repeat (refine zAL rfl ?_));exact zAS)|(refine zA3 [0,1,2] zDJ (hce) ?_ rfl rfl (by decide) rfl rfl rfl rfl rfl rfl ?_;(repeat (refine zAL rfl ?_));exact zAS)|(refine zA3 [0,1,2] zCQ (hcs2) ?_ rfl rfl (by decide) rfl rfl rfl rfl rfl rfl ?_;(repeat (refine zAL rfl ?_));exact zAS)|(apply aJ (hd:=rfl);(first|exact zAk rfl|exact Co_bb rfl rfl rfl|exact Co_nn rfl);exact rfl;(with_reducible exact zA7);assumption;omega;exact fun _=>rfl)|apply ay (hd:=rfl)|exact zAE rfl|exact zAC rfl|(apply zAg;exact rfl;(with_reducible exact zAs))|(apply zAl;exact rfl;(with_reducible exact zBw))|(apply zBC;exact rfl;exact rfl)|exact zAm rfl|exact zAZ rfl|(apply zAK;exact rfl)|apply zAI|apply zAP|apply eb_n
      all_goals first | omega | assumption | skip
      all_goals exact ⟨(i + 2,S5),g15,by show ks.length - (i + 2) < _;omega,zAO (zAA rfl (zAA rfl (zAA rfl (zAA rfl (zAA rfl (Le_d rfl (by simp) zAa)))))) (zAD rfl rfl (zAD rfl rfl (zAD rfl rfl (zAD rfl rfl zAN)))) rfl rfl⟩
  · have hrun:=hMi.run
    rw [List.drop_of_length_le hge,expM.eq_1] at hrun
    injection hrun with hrun;subst hrun
    have hlli : ¬ (i : Int) < (KK.length : Int):=by omega
    skip
    repeat' first | apply en_n|apply zAH|apply zAB|apply zAF|apply w0|(apply zBq;exact rfl;exact rfl;first|assumption|omega)|apply ay (hd:=rfl)|exact zAE rfl|exact zAC rfl|(apply zAl;exact rfl;(with_reducible exact zBw))|(apply zAQ;exact rfl)|apply zAM|apply zAt|apply en_e|apply eb_e
    exact zAq (zAO (zAA rfl zAa) (zAD rfl rfl (zAD rfl rfl (zAD rfl rfl zAN))) rfl rfl)
end Go.Proofs.YtblomnkamngnbaaGreatDoor
namespace Go.Proofs.YtblomnkamngnbaaGreatDoor
open Go.Sx
theorem zSd {L : List Nd} {E : List Sg} {q : Nat} (hL : L.length ≤ 2000000) : ∀ m,zGr L E q m
  | 0=>fun n t N S S' r hm=>by have:=zBS t;omega
  | m + 1=>fun n t N S S' r hm h hw hz hA hp=>by
    have ih:=zSd (E:=E) (q:=q) hL m
    by_cases h0 : S.er = 0
    case neg=>exact zUk n t N S S' r h0 hp
    obtain ⟨x,ks⟩:=t
    obtain ⟨hkk,_⟩:=zDA hw
    have hc : x.kind = 1 ∨ x.kind = 2 ∨ (x.kind = 3 ∨ x.kind = 4) ∨ x.kind = 5 ∨ x.kind = 6 ∨ x.kind = 7 ∨ x.kind = 8 ∨ x.kind = 9 ∨ x.kind = 10 ∨ x.kind = 11 ∨ x.kind = 12:=by omega
    rcases hc with hk | hk | hk | hk | hk | hk | hk | hk | hk | hk | hk
    · exact zTb hL ih n x ks N S S' r hk hm h hw hz hA h0 hp
    · exact zTX hL ih n x ks N S S' r hk hm h hw hz hA h0 hp
    · exact zTW hL ih n x ks N S S' r hk hm h hw hz hA h0 hp
    · exact zUj hL ih n x ks N S S' r hk hm h hw hz hA h0 hp
    · exact zTc hL ih n x ks N S S' r hk hm h hw hz hA h0 hp
    · exact zTa hL ih n x ks N S S' r hk hm h hw hz hA h0 hp
    · exact zTZ hL ih n x ks N S S' r hk hm h hw hz hA h0 hp
    · exact zUi hL ih n x ks N S S' r hk hm h hw hz hA h0 hp
    · exact zQB hL ih n x ks N S S' r hk hm h hw hz hA h0 hp
    · exact zQA hL ih n x ks N S S' r hk hm h hw hz hA h0 hp
    · exact zTY hL ih n x ks N S S' r hk hm h hw hz hA h0 hp
end Go.Proofs.YtblomnkamngnbaaGreatDoor
namespace Go.Proofs.YtblomnkamngnbaaGreatDoor
open Go.Sx
attribute [local irreducible] zAT Program.underlying Ylds zBA alex zBe zBP awp zAj zBZ zBk zA2 zBH zBR zA8 zBV zBb zBf zBu zBO
abbrev shO (L : List Nd) (i : Int) : List Ob:=[.bx none none [.d (zAc L)],.bx none none [.d (i64 i)]]
set_option maxHeartbeats 2000000 in
theorem zJl (f : FuncId) (p : Nd → Bool) (hbf : zAT Tryz.prog f = true) (hp : ∀ n,zAj Tryz.prog f [n.av] (bl (p n))) (L : List Nd) (i j : Nat) (y : Nd) (s : List UInt8) (hy : L[i]? = some y) (hs : s.length ≤ 100000000) (_hj : j ≤ 2000000) (hi : i ≤ 2000000)
    (hc : zAj Tryz.prog 41 [zAc L,i64 (i : Int)] (.tup [str s,i64 (j : Int)])) :
    zA2 Tryz.prog 74 [.clo f [],.ptr 0 0,.ptr 1 0] (shO L i) (.d (str (if p y then 40 :: s ++ [41] else s))) (shO L j):=by
  refine zA1 Tryz.func74 rfl Tryz.ntmps74 Tryz.results74 rfl rfl rfl ?_
  intro wb St0 X fx
  cases hpy : p y with
  | true =>
    have hpc:=hp y;rw [hpy] at hpc
    repeat' first | apply en_n|apply zAH|apply zAB|apply zAF|apply w0|exact zBF rfl|(apply zAV (hb:=zMH) (hc:=hc))|(apply zLq (hb:=hbf) (hc:=hpc);exact rfl)|(apply zKS;exact rfl;exact rfl;simp only [List.length_append,List.length_cons,List.length_nil];omega)|(apply aJ (hd:=rfl);(first|exact zAk rfl|exact Co_bb rfl rfl rfl|exact Co_nn rfl);exact rfl;(with_reducible exact zAW);assumption;omega;exact fun _=>rfl)|(apply zA4 (hd:=rfl) (hro:=rfl);(with_reducible exact zAp))|apply ay (hd:=rfl)|exact zAE rfl|exact zAC rfl|(apply zAf;exact rfl;(with_reducible exact zAY);exact rfl)|exact zBQ rfl rfl|(apply zAU;exact rfl;(with_reducible first|exact zAs|exact zAn);exact rfl;exact rfl)|(apply zCt;exact rfl;(with_reducible exact zAY);exact rfl;exact rfl;exact rfl)|(refine w0' ?_)|(apply zAx;exact rfl;exact rfl;exact rfl;(with_reducible first|exact zAs|exact zAY);exact rfl;exact rfl;exact rfl;exact rfl)|(apply zAK;exact rfl)|apply zAM|apply en_r|exact zAG|refine zAX rfl ?_
    exact zAq (zAO (Le_d rfl (by simp) zAa) (zAD rfl rfl (zAD rfl rfl zAN)) rfl rfl)
  | false =>
    have hpc:=hp y;rw [hpy] at hpc
    repeat' first | apply en_n|apply zAH|apply zAB|apply zAF|apply w0|exact zBF rfl|(apply zAV (hb:=zMH) (hc:=hc))|(apply zLq (hb:=hbf) (hc:=hpc);exact rfl)|(apply aJ (hd:=rfl);(first|exact zAk rfl|exact Co_bb rfl rfl rfl|exact Co_nn rfl);exact rfl;(with_reducible exact zAW);assumption;omega;exact fun _=>rfl)|(apply zA4 (hd:=rfl) (hro:=rfl);(with_reducible exact zAp))|apply ay (hd:=rfl)|exact zAE rfl|exact zAC rfl|(apply zAf;exact rfl;(with_reducible exact zAY);exact rfl)|exact zBQ rfl rfl|(apply zAU;exact rfl;(with_reducible first|exact zAs|exact zAn);exact rfl;exact rfl)|(apply zCt;exact rfl;(with_reducible exact zAY);exact rfl;exact rfl;exact rfl)|(refine w0' ?_)|(apply zAx;exact rfl;exact rfl;exact rfl;(with_reducible first|exact zAs|exact zAY);exact rfl;exact rfl;exact rfl;exact rfl)|(apply zAQ;exact rfl)|apply zAP|apply zAM|exact zAG|refine zAX rfl ?_
    exact zAq (zAO (Le_d rfl (by simp) zAa) (zAD rfl rfl (zAD rfl rfl zAN)) rfl rfl)
end Go.Proofs.YtblomnkamngnbaaGreatDoor
namespace Go.Proofs.YtblomnkamngnbaaGreatDoor
open Go.Sx
theorem zEn {f : Nat → Option (List UInt8 × Nat)} {L : List Nd} {p : Nd → Bool} {i j : Nat} {u : List UInt8} (h : argF f L p i = some (u,j)) : ∃ y s,L[i]? = some y ∧ f i = some (s,j) ∧ u = (if p y then 40 :: s ++ [41] else s):=by
  unfold argF at h
  split at h
  · rename_i y s k hy hs
    injection h with h;injection h with h1 h2;subst h1;subst h2
    exact ⟨y,s,hy,hs,rfl⟩
  · cases h
theorem zGH (L : List Nd) : ∀ (n i : Nat) (u : List UInt8) (j : Nat),zHV n L i = some (u,j) → i < j ∧ j ≤ L.length
  | 0,_,_,_,h=>by cases h
  | n + 1,i,u,j,h=>by
    have ih:=zGH L n
    unfold zHV at h
    split at h
    · cases h
    · rename_i x hx
      have hi:=(List.getElem?_eq_some_iff.1 hx).1
      split at h
      · injection h with h;injection h with h1 h2;omega
      · split at h
        · split at h
          · rename_i u1 j1 h1
            split at h
            · rename_i u2 j2 h2
              injection h with h;injection h with h3 h4;subst h4
              obtain ⟨_,_,_,q1,_⟩:=zEn h1
              obtain ⟨_,_,_,q2,_⟩:=zEn h2
              have:=ih _ _ _ q1;have:=ih _ _ _ q2;omega
            · cases h
          · cases h
        · have:=zEj (J:=fun p : List UInt8 × Nat=>i < p.2 ∧ p.2 ≤ L.length) (fun b x c hb hc=>by
            split at hc
            · rename_i u1 j1 h1
              injection hc with hc;subst hc
              obtain ⟨_,_,_,q1,_⟩:=zEn h1
              have:=ih _ _ _ q1
              simp only
              omega
            · cases hc) ⟨by simp,by simp only;omega⟩ h
          exact this
end Go.Proofs.YtblomnkamngnbaaGreatDoor
namespace Go.Proofs.YtblomnkamngnbaaGreatDoor
open Go.Sx
attribute [local irreducible] zAT Program.underlying Ylds zBA alex zBe zBP awp zAj zBZ zBk zA2 zBH zBR zA8 zBV zBb zBf zBu zBO
set_option maxHeartbeats 8000000 in
theorem zRP (L : List Nd) (n : Nat) (x _y : Nd) (_kx : Int) (pat : Bool) (nm cn : Bool) (hx : L[n]? = some x) (hlen : n < 2000000) (h : x.kind = 3 ∨ x.kind = 5 ∨ x.kind = 7 ∨ x.kind = 12 ∨ x.kind = 22) (hp : patK x.kind = pat)
    (hs : zAj Tryz.prog 82 [i64 x.kind] (i64 1)) (hi : zAj Tryz.prog 46 [i64 x.kind] (bl pat)) (hk : zAj Tryz.prog 83 [i64 x.kind,i64 x.kids] (bl true))
    (hN : zAj Tryz.prog 20 [str x.text] (bl nm)) (_hC : zAj Tryz.prog 19 [str x.text] (bl cn)) (_hW : zAj Tryz.prog 81 [i64 x.num] (i64 (W x.num))) :
    zAj Tryz.prog 45 [zAc L,i64 (n : Int),bl pat] (i64 (genE false false (some nm) pat true pat x (False))):=by
  cases pat
  all_goals
    refine zAd Tryz.func45 rfl Tryz.ntmps45 Tryz.results45 rfl ?_
    intro wb St0
    repeat' first | apply en_n|apply zAH|apply zAB|apply zAF|apply w0|(apply kUd (hd:=rfl);exact rfl;exact rfl)|(apply k1ud (hd:=rfl);exact rfl;exact rfl)|(apply k0ud (hd:=rfl);exact rfl;exact rfl)|(apply kU (hd:=rfl);exact rfl;exact rfl)|(apply k1u (hd:=rfl);exact rfl;exact rfl)|(apply k0u (hd:=rfl);exact rfl;exact rfl)|(apply zBq;exact rfl;exact rfl;first|assumption|omega)|(apply zBD;exact rfl;exact rfl;first|assumption|omega)|(apply zA9;exact rfl;exact rfl;first|assumption|omega)|(apply zFS;exact rfl;exact rfl;with_reducible exact zGE)|(refine zAV zC9 hs (zAX rfl zAG))|(refine zAV zD9 hk (zAX rfl (zAX rfl zAG)))|(refine zAV zC1 hi (zAX rfl zAG))|(refine zAV zGa hN (zAX rfl zAG))|(apply aJ (hd:=rfl);(first|exact zAk rfl|exact Co_bb rfl rfl rfl|exact Co_nn rfl);exact rfl;(with_reducible exact zAW);assumption;omega;exact fun _=>rfl)|(apply zA4 (hd:=rfl) (hro:=rfl);(with_reducible exact zAp))|apply ay (hd:=rfl)|exact zAE rfl|exact zAC rfl|(apply zAf;exact rfl;(with_reducible exact zAY);exact rfl)|exact zEE rfl rfl|exact zBr rfl|exact zAi rfl rfl|exact zAh rfl rfl|(apply zAR;exact rfl;(with_reducible first|exact fn_0|exact fn_1|exact fn_2|exact fn_3))|(apply zAU;exact rfl;(with_reducible first|exact zAs|exact zAe|exact zBK|exact zAv);exact rfl;exact rfl)|(apply w1;exact rfl;exact rfl)|(apply gD;exact rfl;exact rfl;(intro hb);rotate_left;(intro hb);rotate_right)|(apply g1;exact rfl;exact rfl;(intro hb);rotate_left;(intro hb);rotate_right)|(refine w0' ?_)|(apply zAx;exact rfl;exact rfl;exact rfl;(with_reducible exact zAY);exact rfl;exact rfl;exact rfl;exact rfl)|(apply zAK;exact rfl)|(apply zAQ;exact rfl)|apply zAP|apply zAM|refine zA6 (by kernel_rfl) (by kernel_rfl) ?_|apply en_r|apply zAJ|(apply res1;exact rfl)
  all_goals try omega
  all_goals clear hs hi hk hN _hC _hW
  all_goals refine zCr ?_
  all_goals first | (simp_all [genE];done) | (simp_all [genE];omega)
end Go.Proofs.YtblomnkamngnbaaGreatDoor
