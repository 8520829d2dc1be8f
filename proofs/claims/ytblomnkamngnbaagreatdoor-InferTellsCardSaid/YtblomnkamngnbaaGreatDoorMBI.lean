/- Texts of this claim, merged: InfN. -/
import Derived.Test.YtblomnkamngnbaaGreatDoorMBG
import Derived.Test.YtblomnkamngnbaaGreatDoorMBH
namespace Go.Proofs.YtblomnkamngnbaaGreatDoor
open Go.Sx
theorem zJs {ks : List Tr} {i : Nat} {k : Tr} (h : ks[i]? = some k) : pvL (ks.drop i) = k.pv + pvL (ks.drop (i + 1)):=by
  obtain ⟨hi,rfl⟩:=List.getElem?_eq_some_iff.1 h
  rw [List.drop_eq_getElem_cons hi,pvL]
attribute [local irreducible] zAT Program.underlying Ylds zBA alex zBe zBP awp zAj zBZ zBk zA2 zBH zBR zA8 zBV zBb zBf zBu zBO zEL VCall
abbrev nmS : Bool → List Lc → List Lc → SV
  | false,N,_=>.d (tslN N)
  | true,_,N=>.buf 3 (lnN N)
abbrev nmO : Bool → List Lc → Ob
  | false,_=>bufN []
  | true,N=>bufN N
structure PatAt (E : List Sg) (q : Nat) (A : List (List Nd)) (ks : List Tr) (N2 : List Lc) (S2 : TS) (i : Nat) (N : List Lc) (S : TS) : Prop where
  le : i ≤ ks.length
  run : patL q E (A.drop i) (ks.drop i) N S = some (N2,S2)
  ask : Ask E N S (szL (ks.drop i))
theorem PatAt.one {E : List Sg} {q : Nat} {A : List (List Nd)} {x : Nd} {ks : List Tr} {N2 : List Lc} {S2 : TS} {i : Nat} {N : List Lc} {S : TS} {k : Tr} (h : PatAt E q A ks N2 S2 i N S) (hk : ks[i]? = some k) (hw : zDc (decide (x.kind = 10)) true ks 0 = 0) :
    k.werr true = 0 ∧ Ask E N S k.sz ∧ ∃ a t N1 S1 S3,A[i]? = some a ∧ k.patS q E N S = some (t,N1,S1) ∧ zDT q S1 t a = some S3 ∧ PatAt E q A ks N2 S2 (i + 1) N1 S3 ∧ StoB S1.st ∧ t.length ≤ 10000 ∧ (k.pv = 0 → N1 = N):=by
  have hwk : k.werr true = 0:=by simpa using zBa (j:=i) hw hk
  have hi:=(List.getElem?_eq_some_iff.1 hk).1
  have hdr:=zDZ hk
  obtain ⟨a,t,N1,S1,S3,h1,h2,h3,h4⟩:=zPQ hk h.run
  have hA:=h.ask
  rw [hdr] at hA
  obtain ⟨b1,b2,b3,M,b4,b5⟩:=zJv hA.t k.sz k (Nat.le_refl _) hwk hA.ok h2
  have c1:=zCD h3
  have hpv : k.pv ≤ k.sz:=by
    have key : ∀ (m : Nat) (t : Tr),t.sz ≤ m → t.pv ≤ t.sz:=by
      intro m
      induction m with
      | zero=>intro t h;have:=zBS t;omega
      | succ m ih =>
        intro t h
        match t,h with
        | .mk x ks,h =>
          rw [Tr.sz] at h
          have hl : ∀ ks : List Tr,szL ks ≤ m → pvL ks ≤ szL ks:=by
            intro ks
            induction ks with
            | nil=>intro _;simp [pvL]
            | cons k ks ihk =>
              intro h
              rw [szL] at h
              rw [pvL,szL]
              have:=ih k (by omega)
              have:=ihk (by omega)
              omega
          have:=hl ks (by omega)
          rw [Tr.pv,Tr.sz]
          split
          · omega
          · split <;> omega
    exact key _ k (Nat.le_refl _)
  refine ⟨hwk,⟨hA.e,hA.t,by have:=hA.n;omega,hA.ok,hA.st,by have:=hA.nx;have:=zBS k;omega⟩,a,t,N1,S1,S3,h1,h2,h3,⟨hi,h4,⟨hA.e,hA.t,?_,b3,c1.st (b1.st hA.st),?_⟩⟩,b1.st hA.st,b2,fun h0=>?_⟩
  · have:=hA.n;rw [b4,List.length_append,b5];omega
  · have:=hA.nx;have:=b1.lo;have:=b1.hi;have:=c1.lo;have:=c1.hi;omega
  · rw [b4,List.eq_nil_of_length_eq_zero (b5.trans h0),List.append_nil]
theorem PatAt.start {E : List Sg} {q : Nat} {x : Nd} {ks : List Tr} {N N' : List Lc} {S S' : TS} {r : List Nd} (hk : x.kind = 24) (hA : Ask E N S (Tr.mk x ks).sz) (h : (Tr.mk x ks).patS q E N S = some (r,N',S')) :
    ∃ c S1,zKZ E S x.text = some (c,S1) ∧ r = (zCG c).2 ∧ c.length ≤ 10000 ∧ PatAt E q (zCG c).1 ks N' S' 0 N S1:=by
  obtain ⟨c,S1,h1,h2,h3⟩:=zUH hk h
  obtain ⟨b1,b2⟩:=zJf hA.t h1
  have hsz : (Tr.mk x ks).sz = szL ks + 1:=by rw [Tr.sz]
  rw [hsz] at hA
  refine ⟨c,S1,h1,h3,b2,Nat.zero_le _,by simpa using h2,hA.e,hA.t,by rw [List.drop_zero];have:=hA.n;omega,hA.ok,b1.st hA.st,?_⟩
  rw [List.drop_zero]
  have:=hA.nx;have:=b1.lo;have:=b1.hi
  omega
set_option maxHeartbeats 4000000 in
theorem zRV {L : List Nd} {E : List Sg} {q m : Nat} (hL : L.length ≤ 2000000) (ih : PatOk L E q m) (n : Nat) (x : Nd) (ks : List Tr) (N N' : List Lc) (S S' : TS) (r : List Nd) (hk : x.kind = 24) (hm : (Tr.mk x ks).sz ≤ m + 1) (h : At L n (.mk x ks)) (hw : (Tr.mk x ks).werr true = 0) (hA : Ask E N S (Tr.mk x ks).sz) (hp : (Tr.mk x ks).patS q E N S = some (r,N',S')) (hv : (Tr.mk x ks).pv = 0) :
    zA2 Tryz.prog 70 [.ptr 0 0,.d (i64 (n : Int)),.d (tslN N)] (tyO L E S) (.pair (.d (zAc r)) (.d (tslN N))) (tyO L E S'):=by
  have hx:=h.here
  have hlen : n < L.length:=(List.getElem?_eq_some_iff.1 hx).1
  obtain ⟨c,S1,h1,rfl,hcl,hP⟩:=PatAt.start hk hA hp
  have hwk:=(zC7 hw).2
  rw [Tr.pv,if_neg (by omega),if_pos hk] at hv
  have htd:=zJe L E S S1 x.text c hA.e hA.t (by have:=hA.nx;omega) h1
  have hpf:=zFW c (by omega)
  have hpa:=(zFe c).1
  have hkid:=zCd L (n : Int) hL
  have hkl:=h.kids_len
  have hkg : ∀ i,i < ks.length → (zBX L (n : Int))[i]? = some ((kidAt n ks i : Nat) : Int):=fun i hi=>h.kids_get hi
  have hat : ∀ i k,ks[i]? = some k → At L (kidAt n ks i) k:=fun i k hik=>h.kid hik
  have hsz : (Tr.mk x ks).sz = szL ks + 1:=by rw [Tr.sz]
  have hl24 : ks.length ≤ szL ks:=zD4 ks
  have hLl:=h.len
  generalize (zCG c).1 = A at *
  generalize (zCG c).2 = to' at *
  generalize zBX L (n : Int) = KK at *
  clear hp hw h1
  refine zA1 Tryz.func70 rfl Tryz.ntmps70 Tryz.results70 rfl rfl rfl ?_
  intro wb St0 X fx
  repeat' first | apply en_n|apply zAH|apply zAB|apply zAF|apply w0|(apply zA9;exact rfl;exact rfl;first|assumption|omega)|exact zAo rfl|(refine zA3 [0,1,2] zJ3 (htd) ?_ rfl rfl (by decide) rfl rfl rfl rfl rfl rfl ?_;(repeat (refine zAL rfl ?_));exact zAS)|(refine zAV zEx hpf (zAX rfl zAG))|(refine zAV zCY hkid (zAX rfl (zAX rfl zAG)))|(apply aJ (hd:=rfl);(first|exact zAk rfl|exact Co_bb rfl rfl rfl|exact Co_nn rfl);exact rfl;(with_reducible exact zAW);assumption;omega;exact fun _=>rfl)|(apply zA4 (hd:=rfl) (hro:=rfl);(with_reducible exact zAp))|apply ay (hd:=rfl)|exact zAE rfl|exact zAC rfl|(apply zAf;exact rfl;(with_reducible exact zAY);exact rfl)|(apply zAl;exact rfl;(with_reducible exact zBw))|exact zBQ rfl rfl|exact zAb rfl|exact zAZ rfl|(apply zAR;exact rfl;(with_reducible first|exact fy_1|exact fn_0|exact fn_1))|(apply zAU;exact rfl;(with_reducible first|exact zAn|exact zAe|exact zAv);exact rfl;exact rfl)|(refine w0' ?_)|(apply zAx;exact rfl;exact rfl;exact rfl;(with_reducible exact zAY);exact rfl;exact rfl;exact rfl;exact rfl)|(apply zAQ;exact rfl)|apply zAI|apply zAP|apply eb_n
  refine zAr (α:=Nat × TS) (fun p=>PatAt E q A ks N' S' p.1 N p.2 ∧ pvL (ks.drop p.1) = 0) (fun p=>[(0,.ptr 0 0),(2,.d (tslN N)),(10,.d (zFr A)),(11,.d (zAc to')),(58,.d (zBm KK)),(59,.d (i64 (ks.length : Int))),(60,.d (i64 (p.1 : Int)))]) (fun p=>anch fx 0 (tyO L E S) (tyO L E p.2)) (fun p=>ks.length - p.1) (0,S1) ⟨hP,by simpa using hv⟩
    (zAO (zAA rfl (zAA rfl (zAA rfl (zAA rfl (zAA rfl (Le_d rfl (by rw [← hkl]) (zAA rfl zAa))))))) (zAD rfl rfl (zAD rfl rfl (zAD rfl rfl zAN))) rfl rfl) ?_
  rintro ⟨i,Si⟩ ⟨hPi,hvi⟩
  dsimp only at hPi hvi ⊢
  rcases Nat.lt_or_ge i ks.length with hlt | hge
  · have hik : ks[i]? = some ks[i]:=List.getElem?_eq_getElem hlt
    generalize ks[i] = k at hik
    obtain ⟨w1,w2,a,t,N1,S2,S3,g1,g2,g3,g4,g5,g6,g7⟩:=hPi.one hik hwk
    have hkv : k.pv = 0:=by rw [zJs hik] at hvi;omega
    have hvn : pvL (ks.drop (i + 1)) = 0:=by rw [zJs hik] at hvi;omega
    have hN1:=g7 hkv
    subst hN1
    have hkk:=hkg i hlt
    have hcp:=ih.a (kidAt n ks i) k N1 N1 Si S2 t (by have:=zCo (List.mem_of_getElem? hik);omega) (hat i k hik) w1 w2 g2 hkv
    have hal:=(List.getElem?_eq_some_iff.1 g1).1
    have hsm:=zDD L E S2 S3 q t a (by omega) (by have:=hpa a (List.mem_of_getElem? g1);omega) g5 g3
    clear hP hA hPi hkg hat
    skip
    repeat' first | apply en_n|apply zAH|apply zAB|apply zAF|apply w0|(apply zA5;exact rfl;exact rfl;first|assumption|omega)|exact zCM rfl|exact zFv rfl|exact zFu rfl|(refine zA3 [0,1,2] zF4 (hcp) ?_ rfl rfl (by decide) rfl rfl rfl rfl rfl rfl ?_;(repeat (refine zAL rfl ?_));exact zAS)|(refine zA3 [0,1,2] zCQ (hsm) ?_ rfl rfl (by decide) rfl rfl rfl rfl rfl rfl ?_;(repeat (refine zAL rfl ?_));exact zAS)|(apply aJ (hd:=rfl);(first|exact zAk rfl|exact Co_bb rfl rfl rfl|exact Co_nn rfl);exact rfl;(with_reducible first|exact zA7|exact zCS);assumption;omega;exact fun _=>rfl)|apply ay (hd:=rfl)|exact zAE rfl|exact zAC rfl|(apply zAg;exact rfl;(with_reducible first|exact zAs|exact zAn))|(apply zBC;exact rfl;exact rfl)|exact zAb rfl|exact zAZ rfl|(apply zAK;exact rfl)|apply zAI|apply zAP|apply eb_n
    all_goals first | omega | skip
    exact ⟨(i + 1,S3),⟨g4,hvn⟩,by show ks.length - (i + 1) < _;omega,zAO (zAA rfl (zAA rfl (zAA rfl (zAA rfl (zAA rfl (zAA rfl (zAA rfl zAa))))))) (zAD rfl rfl (zAD rfl rfl (zAD rfl rfl zAN))) rfl rfl⟩
  · have hrun:=hPi.run
    rw [List.drop_of_length_le hge,patL.eq_1] at hrun
    injection hrun with hrun;injection hrun with e1 e2;subst e1;subst e2
    skip
    repeat' first | apply en_n|apply zAH|apply zAB|apply zAF|apply w0|(apply zBq;exact rfl;exact rfl;first|assumption|omega)|apply ay (hd:=rfl)|exact zAE rfl|exact zAC rfl|(apply zAQ;exact rfl)|apply zAM|apply zAt|apply en_e|apply eb_e
    exact zAq ⟨zAO (zAA rfl (zAA rfl zAa)) (zAD rfl rfl (zAD rfl rfl (zAD rfl rfl zAN))) rfl rfl,rfl⟩
set_option maxHeartbeats 4000000 in
theorem zRT {L : List Nd} {E : List Sg} {q m : Nat} (hL : L.length ≤ 2000000) (ih : PatOk L E q m) (n : Nat) (x : Nd) (ks : List Tr) (N N' : List Lc) (S S' : TS) (r : List Nd) (hk : x.kind = 24) (hm : (Tr.mk x ks).sz ≤ m + 1) (h : At L n (.mk x ks)) (hw : (Tr.mk x ks).werr true = 0) (hA : Ask E N S (Tr.mk x ks).sz) (hp : (Tr.mk x ks).patS q E N S = some (r,N',S')) :
    zA2 Tryz.prog 70 [.ptr 0 0,.d (i64 (n : Int)),.buf 3 (lnN N)] (tyO L E S ++ [bufN N]) (.pair (.d (zAc r)) (.buf 3 (lnN N'))) (tyO L E S' ++ [bufN N']):=by
  have hx:=h.here
  have hlen : n < L.length:=(List.getElem?_eq_some_iff.1 hx).1
  obtain ⟨c,S1,h1,rfl,hcl,hP⟩:=PatAt.start hk hA hp
  have hwk:=(zC7 hw).2
  have htd:=zJe L E S S1 x.text c hA.e hA.t (by have:=hA.nx;omega) h1
  have hpf:=zFW c (by omega)
  have hpa:=(zFe c).1
  have hkid:=zCd L (n : Int) hL
  have hkl:=h.kids_len
  have hkg : ∀ i,i < ks.length → (zBX L (n : Int))[i]? = some ((kidAt n ks i : Nat) : Int):=fun i hi=>h.kids_get hi
  have hat : ∀ i k,ks[i]? = some k → At L (kidAt n ks i) k:=fun i k hik=>h.kid hik
  have hsz : (Tr.mk x ks).sz = szL ks + 1:=by rw [Tr.sz]
  have hl24 : ks.length ≤ szL ks:=zD4 ks
  have hLl:=h.len
  generalize (zCG c).1 = A at *
  generalize (zCG c).2 = to' at *
  generalize zBX L (n : Int) = KK at *
  clear hp hw h1
  refine zA1 Tryz.func70 rfl Tryz.ntmps70 Tryz.results70 rfl rfl rfl ?_
  intro wb St0 X fx
  repeat' first | apply en_n|apply zAH|apply zAB|apply zAF|apply w0|(apply zA9;exact rfl;exact rfl;first|assumption|omega)|exact zAo rfl|(refine zA3 [0,1,2] zJ3 (htd) ?_ rfl rfl (by decide) rfl rfl rfl rfl rfl rfl ?_;(repeat (refine zAL rfl ?_));exact zAS)|(refine zAV zEx hpf (zAX rfl zAG))|(refine zAV zCY hkid (zAX rfl (zAX rfl zAG)))|(apply aJ (hd:=rfl);(first|exact zAk rfl|exact Co_bb rfl rfl rfl|exact Co_nn rfl);exact rfl;(with_reducible exact zAW);assumption;omega;exact fun _=>rfl)|(apply zA4 (hd:=rfl) (hro:=rfl);(with_reducible exact zAp))|apply ay (hd:=rfl)|exact zAE rfl|exact zAC rfl|(apply zAf;exact rfl;(with_reducible exact zAY);exact rfl)|(apply zAl;exact rfl;(with_reducible exact zBw))|exact zBQ rfl rfl|exact zAb rfl|exact zAZ rfl|(apply zAR;exact rfl;(with_reducible first|exact fy_1|exact fn_0|exact fn_1))|(apply zAU;exact rfl;(with_reducible first|exact zAn|exact zAe|exact zAv);exact rfl;exact rfl)|(refine w0' ?_)|(apply zAx;exact rfl;exact rfl;exact rfl;(with_reducible exact zAY);exact rfl;exact rfl;exact rfl;exact rfl)|(apply zAQ;exact rfl)|apply zAI|apply zAP|apply eb_n
  refine zAr (α:=Nat × List Lc × TS) (fun p=>PatAt E q A ks N' S' p.1 p.2.1 p.2.2) (fun p=>[(0,.ptr 0 0),(2,.buf 3 (lnN p.2.1)),(10,.d (zFr A)),(11,.d (zAc to')),(58,.d (zBm KK)),(59,.d (i64 (ks.length : Int))),(60,.d (i64 (p.1 : Int)))]) (fun p=>anch fx 0 (tyO L E S ++ [bufN N]) (tyO L E p.2.2 ++ [bufN p.2.1])) (fun p=>ks.length - p.1) (0,N,S1) hP
    (zAO (zAA rfl (zAA rfl (zAA rfl (zAA rfl (zAA rfl (Le_d rfl (by rw [← hkl]) (zAA rfl zAa))))))) (zAD rfl rfl (zAD rfl rfl (zAD rfl rfl (zAu rfl rfl rfl zAN)))) rfl rfl) ?_
  rintro ⟨i,Ni,Si⟩ hPi
  dsimp only at hPi ⊢
  rcases Nat.lt_or_ge i ks.length with hlt | hge
  · have hik : ks[i]? = some ks[i]:=List.getElem?_eq_getElem hlt
    generalize ks[i] = k at hik
    obtain ⟨w1,w2,a,t,N1,S2,S3,g1,g2,g3,g4,g5,g6,g7⟩:=hPi.one hik hwk
    have hkk:=hkg i hlt
    have hcp:=ih.c (kidAt n ks i) k Ni N1 Si S2 t (by have:=zCo (List.mem_of_getElem? hik);omega) (hat i k hik) w1 w2 g2
    have hal:=(List.getElem?_eq_some_iff.1 g1).1
    have hsm:=zDD L E S2 S3 q t a (by omega) (by have:=hpa a (List.mem_of_getElem? g1);omega) g5 g3
    clear hP hA hPi hkg hat
    skip
    repeat' first | apply en_n|apply zAH|apply zAB|apply zAF|apply w0|(apply zA5;exact rfl;exact rfl;first|assumption|omega)|exact zCM rfl|exact zFv rfl|exact zFu rfl|(refine zA3 [0,1,2,3] zF4 (hcp) ?_ rfl rfl (by decide) rfl rfl rfl rfl rfl rfl ?_;(repeat (refine zAL rfl ?_));exact zAS)|(refine zA3 [0,1,2] zCQ (hsm) ?_ rfl rfl (by decide) rfl rfl rfl rfl rfl rfl ?_;(repeat (refine zAL rfl ?_));exact zAS)|(apply aJ (hd:=rfl);(first|exact zAk rfl|exact Co_bb rfl rfl rfl|exact Co_nn rfl);exact rfl;(with_reducible first|exact zA7|exact zCS);assumption;omega;exact fun _=>rfl)|apply ay (hd:=rfl)|exact zAE rfl|exact zAC rfl|(apply zAg;exact rfl;(with_reducible first|exact zAs|exact zAn))|(apply zBC;exact rfl;exact rfl)|exact zAb rfl|exact zAw rfl|exact zAm rfl|exact zAZ rfl|(apply zAK;exact rfl)|apply zAI|apply zAP|apply eb_n
    all_goals first | omega | skip
    exact ⟨(i + 1,N1,S3),g4,by show ks.length - (i + 1) < _;omega,zAO (zAA rfl (zAA rfl (zAA rfl (zAA rfl (zAA rfl (zAA rfl (zAA rfl zAa))))))) (zAD rfl rfl (zAD rfl rfl (zAD rfl rfl (zAu rfl rfl rfl zAN)))) rfl rfl⟩
  · have hrun:=hPi.run
    rw [List.drop_of_length_le hge,patL.eq_1] at hrun
    injection hrun with hrun;injection hrun with e1 e2;subst e1;subst e2
    skip
    repeat' first | apply en_n|apply zAH|apply zAB|apply zAF|apply w0|(apply zBq;exact rfl;exact rfl;first|assumption|omega)|apply ay (hd:=rfl)|exact zAE rfl|exact zAC rfl|exact zAw rfl|exact zAm rfl|(apply zAQ;exact rfl)|apply zAM|apply zAt|apply en_e|apply eb_e
    exact zAq ⟨zAO (zAA rfl (zAA rfl zAa)) (zAD rfl rfl (zAD rfl rfl (zAD rfl rfl (zAu rfl rfl rfl zAN)))) rfl rfl,rfl⟩
set_option maxHeartbeats 4000000 in
theorem zRU {L : List Nd} {E : List Sg} {q m : Nat} (hL : L.length ≤ 2000000) (ih : PatOk L E q m) (n : Nat) (x : Nd) (ks : List Tr) (N N' : List Lc) (S S' : TS) (r : List Nd) (hk : x.kind = 24) (hm : (Tr.mk x ks).sz ≤ m + 1) (h : At L n (.mk x ks)) (hw : (Tr.mk x ks).werr true = 0) (hA : Ask E N S (Tr.mk x ks).sz) (hp : (Tr.mk x ks).patS q E N S = some (r,N',S')) (hv : (Tr.mk x ks).pv ≠ 0) :
    zA2 Tryz.prog 70 [.ptr 0 0,.d (i64 (n : Int)),.d (tslN N)] (tyO L E S ++ [bufN []]) (.pair (.d (zAc r)) (.buf 3 (lnN N'))) (tyO L E S' ++ [bufN N']):=by
  have hx:=h.here
  have hlen : n < L.length:=(List.getElem?_eq_some_iff.1 hx).1
  obtain ⟨c,S1,h1,rfl,hcl,hP⟩:=PatAt.start hk hA hp
  have hwk:=(zC7 hw).2
  rw [Tr.pv,if_neg (by omega),if_pos hk] at hv
  have htd:=zJe L E S S1 x.text c hA.e hA.t (by have:=hA.nx;omega) h1
  have hpf:=zFW c (by omega)
  have hpa:=(zFe c).1
  have hkid:=zCd L (n : Int) hL
  have hkl:=h.kids_len
  have hkg : ∀ i,i < ks.length → (zBX L (n : Int))[i]? = some ((kidAt n ks i : Nat) : Int):=fun i hi=>h.kids_get hi
  have hat : ∀ i k,ks[i]? = some k → At L (kidAt n ks i) k:=fun i k hik=>h.kid hik
  have hsz : (Tr.mk x ks).sz = szL ks + 1:=by rw [Tr.sz]
  have hl24 : ks.length ≤ szL ks:=zD4 ks
  have hLl:=h.len
  generalize (zCG c).1 = A at *
  generalize (zCG c).2 = to' at *
  generalize zBX L (n : Int) = KK at *
  clear hp hw h1
  refine zA1 Tryz.func70 rfl Tryz.ntmps70 Tryz.results70 rfl rfl rfl ?_
  intro wb St0 X fx
  repeat' first | apply en_n|apply zAH|apply zAB|apply zAF|apply w0|(apply zA9;exact rfl;exact rfl;first|assumption|omega)|exact zAo rfl|(refine zA3 [0,1,2] zJ3 (htd) ?_ rfl rfl (by decide) rfl rfl rfl rfl rfl rfl ?_;(repeat (refine zAL rfl ?_));exact zAS)|(refine zAV zEx hpf (zAX rfl zAG))|(refine zAV zCY hkid (zAX rfl (zAX rfl zAG)))|(apply aJ (hd:=rfl);(first|exact zAk rfl|exact Co_bb rfl rfl rfl|exact Co_nn rfl);exact rfl;(with_reducible exact zAW);assumption;omega;exact fun _=>rfl)|(apply zA4 (hd:=rfl) (hro:=rfl);(with_reducible exact zAp))|apply ay (hd:=rfl)|exact zAE rfl|exact zAC rfl|(apply zAf;exact rfl;(with_reducible exact zAY);exact rfl)|(apply zAl;exact rfl;(with_reducible exact zBw))|exact zBQ rfl rfl|exact zAb rfl|exact zAZ rfl|(apply zAR;exact rfl;(with_reducible first|exact fy_1|exact fn_0|exact fn_1))|(apply zAU;exact rfl;(with_reducible first|exact zAn|exact zAe|exact zAv);exact rfl;exact rfl)|(refine w0' ?_)|(apply zAx;exact rfl;exact rfl;exact rfl;(with_reducible exact zAY);exact rfl;exact rfl;exact rfl;exact rfl)|(apply zAQ;exact rfl)|apply zAI|apply zAP|apply eb_n
  refine zAr (α:=Nat × List Lc × TS × Bool) (fun p=>PatAt E q A ks N' S' p.1 p.2.1 p.2.2.1 ∧ (p.2.2.2 = false → p.2.1 = N ∧ pvL (ks.drop p.1) ≠ 0)) (fun p=>[(0,.ptr 0 0),(2,nmS p.2.2.2 N p.2.1),(10,.d (zFr A)),(11,.d (zAc to')),(58,.d (zBm KK)),(59,.d (i64 (ks.length : Int))),(60,.d (i64 (p.1 : Int)))]) (fun p=>anch fx 0 (tyO L E S ++ [bufN []]) (tyO L E p.2.2.1 ++ [nmO p.2.2.2 p.2.1])) (fun p=>ks.length - p.1) (0,N,S1,false) ⟨hP,fun _=>⟨rfl,by simpa using hv⟩⟩
    (zAO (zAA rfl (zAA rfl (zAA rfl (zAA rfl (zAA rfl (Le_d rfl (by rw [← hkl]) (zAA rfl zAa))))))) (zAD rfl rfl (zAD rfl rfl (zAD rfl rfl (zAu rfl rfl rfl zAN)))) rfl rfl) ?_
  rintro ⟨i,Ni,Si,f⟩ ⟨hPi,hfi⟩
  dsimp only at hPi hfi ⊢
  rcases Nat.lt_or_ge i ks.length with hlt | hge
  · have hik : ks[i]? = some ks[i]:=List.getElem?_eq_getElem hlt
    generalize ks[i] = k at hik
    obtain ⟨w1,w2,a,t,N1,S2,S3,g1,g2,g3,g4,g5,g6,g7⟩:=hPi.one hik hwk
    have hkk:=hkg i hlt
    have hks : k.sz ≤ m:=by have:=zCo (List.mem_of_getElem? hik);omega
    have hal:=(List.getElem?_eq_some_iff.1 g1).1
    have hsm:=zDD L E S2 S3 q t a (by omega) (by have:=hpa a (List.mem_of_getElem? g1);omega) g5 g3
    cases f with
    | true =>
      have hcp:=ih.c (kidAt n ks i) k Ni N1 Si S2 t hks (hat i k hik) w1 w2 g2
      clear hP hA hPi hkg hat
      skip
      repeat' first | apply en_n|apply zAH|apply zAB|apply zAF|apply w0|(apply zA5;exact rfl;exact rfl;first|assumption|omega)|exact zCM rfl|exact zFv rfl|exact zFu rfl|(refine zA3 [0,1,2,3] zF4 (hcp) ?_ rfl rfl (by decide) rfl rfl rfl rfl rfl rfl ?_;(repeat (refine zAL rfl ?_));exact zAS)|(refine zA3 [0,1,2] zCQ (hsm) ?_ rfl rfl (by decide) rfl rfl rfl rfl rfl rfl ?_;(repeat (refine zAL rfl ?_));exact zAS)|(apply aJ (hd:=rfl);(first|exact zAk rfl|exact Co_bb rfl rfl rfl|exact Co_nn rfl);exact rfl;(with_reducible first|exact zA7|exact zCS);assumption;omega;exact fun _=>rfl)|apply ay (hd:=rfl)|exact zAE rfl|exact zAC rfl|(apply zAg;exact rfl;(with_reducible first|exact zAs|exact zAn))|(apply zBC;exact rfl;exact rfl)|exact zAb rfl|exact zAw rfl|exact zAm rfl|exact zAZ rfl|(apply zAK;exact rfl)|apply zAI|apply zAP|apply eb_n
      all_goals first | omega | skip
      exact ⟨(i + 1,N1,S3,true),⟨g4,fun h=>by cases h⟩,by show ks.length - (i + 1) < _;omega,zAO (zAA rfl (zAA rfl (zAA rfl (zAA rfl (zAA rfl (zAA rfl (zAA rfl zAa))))))) (zAD rfl rfl (zAD rfl rfl (zAD rfl rfl (zAu rfl rfl rfl zAN)))) rfl rfl⟩
    | false =>
      obtain ⟨rfl,hvi⟩:=hfi rfl
      by_cases hkv : k.pv = 0
      · have hN1:=g7 hkv
        subst hN1
        have hvn : pvL (ks.drop (i + 1)) ≠ 0:=by rw [zJs hik] at hvi;omega
        have hcp:=ih.a (kidAt n ks i) k N1 N1 Si S2 t hks (hat i k hik) w1 w2 g2 hkv
        clear hP hA hPi hkg hat
        skip
        repeat' first | apply en_n|apply zAH|apply zAB|apply zAF|apply w0|(apply zA5;exact rfl;exact rfl;first|assumption|omega)|exact zCM rfl|exact zFv rfl|exact zFu rfl|(refine zA3 [0,1,2] zF4 (hcp) ?_ rfl rfl (by decide) rfl rfl rfl rfl rfl rfl ?_;(repeat (refine zAL rfl ?_));exact zAS)|(refine zA3 [0,1,2] zCQ (hsm) ?_ rfl rfl (by decide) rfl rfl rfl rfl rfl rfl ?_;(repeat (refine zAL rfl ?_));exact zAS)|(apply aJ (hd:=rfl);(first|exact zAk rfl|exact Co_bb rfl rfl rfl|exact Co_nn rfl);exact rfl;(with_reducible first|exact zA7|exact zCS);assumption;omega;exact fun _=>rfl)|apply ay (hd:=rfl)|exact zAE rfl|exact zAC rfl|(apply zAg;exact rfl;(with_reducible first|exact zAs|exact zAn))|(apply zBC;exact rfl;exact rfl)|exact zAb rfl|exact zAZ rfl|(apply zAK;exact rfl)|apply zAI|apply zAP|apply eb_n
        all_goals first | omega | skip
        exact ⟨(i + 1,N1,S3,false),⟨g4,fun _=>⟨rfl,hvn⟩⟩,by show ks.length - (i + 1) < _;omega,zAO (zAA rfl (zAA rfl (zAA rfl (zAA rfl (zAA rfl (zAA rfl (zAA rfl zAa))))))) (zAD rfl rfl (zAD rfl rfl (zAD rfl rfl (zAu rfl rfl rfl zAN)))) rfl rfl⟩
      · have hcp:=ih.b (kidAt n ks i) k Ni N1 Si S2 t hks (hat i k hik) w1 w2 g2 hkv
        clear hP hA hPi hkg hat
        skip
        repeat' first | apply en_n|apply zAH|apply zAB|apply zAF|apply w0|(apply zA5;exact rfl;exact rfl;first|assumption|omega)|exact zCM rfl|exact zFv rfl|exact zFu rfl|(refine zA3 [0,1,2,3] zF4 (hcp) ?_ rfl rfl (by decide) rfl rfl rfl rfl rfl rfl ?_;(repeat (refine zAL rfl ?_));exact zAS)|(refine zA3 [0,1,2] zCQ (hsm) ?_ rfl rfl (by decide) rfl rfl rfl rfl rfl rfl ?_;(repeat (refine zAL rfl ?_));exact zAS)|(apply aJ (hd:=rfl);(first|exact zAk rfl|exact Co_bb rfl rfl rfl|exact Co_nn rfl);exact rfl;(with_reducible first|exact zA7|exact zCS);assumption;omega;exact fun _=>rfl)|apply ay (hd:=rfl)|exact zAE rfl|exact zAC rfl|(apply zAg;exact rfl;(with_reducible first|exact zAs|exact zAn))|(apply zBC;exact rfl;exact rfl)|exact zAb rfl|exact zAm rfl|exact zAZ rfl|(apply zAK;exact rfl)|apply zAI|apply zAP|apply eb_n
        all_goals first | omega | skip
        exact ⟨(i + 1,N1,S3,true),⟨g4,fun h=>by cases h⟩,by show ks.length - (i + 1) < _;omega,zAO (zAA rfl (zAA rfl (zAA rfl (zAA rfl (zAA rfl (zAA rfl (zAA rfl zAa))))))) (zAD rfl rfl (zAD rfl rfl (zAD rfl rfl (zAu rfl rfl rfl zAN)))) rfl rfl⟩
  · have hrun:=hPi.run
    rw [List.drop_of_length_le hge,patL.eq_1] at hrun
    injection hrun with hrun;injection hrun with e1 e2;subst e1;subst e2
    cases f with
    | false =>
      obtain ⟨_,hvi⟩:=hfi rfl
      rw [List.drop_of_length_le hge] at hvi
      exact absurd rfl hvi
    | true =>
      skip
      repeat' first | apply en_n|apply zAH|apply zAB|apply zAF|apply w0|(apply zBq;exact rfl;exact rfl;first|assumption|omega)|apply ay (hd:=rfl)|exact zAE rfl|exact zAC rfl|exact zAw rfl|exact zAm rfl|(apply zAQ;exact rfl)|apply zAM|apply zAt|apply en_e|apply eb_e
      exact zAq ⟨zAO (zAA rfl (zAA rfl zAa)) (zAD rfl rfl (zAD rfl rfl (zAD rfl rfl (zAu rfl rfl rfl zAN)))) rfl rfl,rfl⟩
theorem zSV {L : List Nd} {E : List Sg} {q : Nat} (hL : L.length ≤ 2000000) : ∀ m,PatOk L E q m
  | 0=>⟨fun n p N N' S S' r hm=>by have:=zBS p;omega,fun n p N N' S S' r hm=>by have:=zBS p;omega,fun n p N N' S S' r hm=>by have:=zBS p;omega⟩
  | m + 1=>by
    have ih:=zSV (E:=E) (q:=q) hL m
    have ask1 : ∀ {N S} {t : Tr},Ask E N S t.sz → Ask E N S 1:=fun {N S t} h=>⟨h.e,h.t,by have:=h.n;have:=zBS t;omega,h.ok,h.st,by have:=h.nx;have:=zBS t;omega⟩
    refine ⟨fun n p N N' S S' r hm h hw hA hp hv=>?_,fun n p N N' S S' r hm h hw hA hp hv=>?_,fun n p N N' S S' r hm h hw hA hp=>?_⟩ <;> (obtain ⟨x,ks⟩:=p;obtain ⟨hk1,hk2⟩:=zPP hw)
    · by_cases hk : x.kind = 24
      · exact zRV hL ih n x ks N N' S S' r hk hm h hw hA hp hv
      · refine (zJu hL n x ks N N' S S' r h.here (ask1 hA) hk hk1 hp).1 fun h22=>?_
        rw [Tr.pv,if_pos h22] at hv;cases hv
    · by_cases hk : x.kind = 24
      · exact zRU hL ih n x ks N N' S S' r hk hm h hw hA hp hv
      · refine (zJu hL n x ks N N' S S' r h.here (ask1 hA) hk hk1 hp).2.1 ?_
        by_cases h22 : x.kind = 22
        · exact h22
        · rw [Tr.pv,if_neg h22,if_neg hk] at hv;exact absurd rfl hv
    · by_cases hk : x.kind = 24
      · exact zRT hL ih n x ks N N' S S' r hk hm h hw hA hp
      · exact (zJu hL n x ks N N' S S' r h.here (ask1 hA) hk hk1 hp).2.2
end Go.Proofs.YtblomnkamngnbaaGreatDoor
