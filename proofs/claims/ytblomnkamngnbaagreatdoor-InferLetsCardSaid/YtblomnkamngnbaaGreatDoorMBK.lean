/- Texts of this claim, merged: InfN. -/
import Derived.Test.YtblomnkamngnbaaGreatDoorMBB
import Derived.Test.YtblomnkamngnbaaGreatDoorMBJ
namespace Go.Proofs.YtblomnkamngnbaaGreatDoor
open Go.Sx
theorem zJ6 {ks : List Tr} {i : Nat} {k : Tr} (h : ks[i]? = some k) : pvL (ks.drop i) = k.pv + pvL (ks.drop (i + 1)):=by
  obtain ⟨hi,rfl⟩:=List.getElem?_eq_some_iff.1 h
  rw [List.drop_eq_getElem_cons hi,pvL]
attribute [local irreducible] zAO Program.underlying Ylds zA3 alex zBY zBN awp zAm zBT zBe zAx zBA zBP zA2 zBR zBX zBa zBq zBI zET VCall
abbrev nmS : Bool → List Lc → List Lc → SV
  | false,N,_=>.d (tslN N)
  | true,_,N=>.buf 3 (lnN N)
abbrev nmO : Bool → List Lc → Ob
  | false,_=>bufN []
  | true,N=>bufN N
structure PatAt (E : List Sg) (q : Nat) (A : List (List Nd)) (ks : List Tr) (N2 : List Lc) (S2 : TS) (i : Nat) (N : List Lc) (S : TS) : Prop where
  le : i ≤ ks.length
  run : patL q E (A.drop i) (ks.drop i) N S = some (N2,S2)
  ask : Ask E N S (szL (ks.drop i))
theorem PatAt.one {E : List Sg} {q : Nat} {A : List (List Nd)} {x : Nd} {ks : List Tr} {N2 : List Lc} {S2 : TS} {i : Nat} {N : List Lc} {S : TS} {k : Tr} (h : PatAt E q A ks N2 S2 i N S) (hk : ks[i]? = some k) (hw : zC6 (decide (x.kind = 10)) true ks 0 = 0) :
    k.werr true = 0 ∧ Ask E N S k.sz ∧ ∃ a t N1 S1 S3,A[i]? = some a ∧ k.patS q E N S = some (t,N1,S1) ∧ zCy q S1 t a = some S3 ∧ PatAt E q A ks N2 S2 (i + 1) N1 S3 ∧ StoB S1.st ∧ t.length ≤ 10000 ∧ (k.pv = 0 → N1 = N):=by
  have hwk : k.werr true = 0:=by simpa using zBB (j:=i) hw hk
  have hi:=(List.getElem?_eq_some_iff.1 hk).1
  have hdr:=zDe hk
  obtain ⟨a,t,N1,S1,S3,h1,h2,h3,h4⟩:=zQB hk h.run
  have hA:=h.ask
  rw [hdr] at hA
  obtain ⟨b1,b2,b3,M,b4,b5⟩:=zKA hA.t k.sz k (Nat.le_refl _) hwk hA.ok h2
  have c1:=zCB h3
  have hpv : k.pv ≤ k.sz:=by
    have key : ∀ (m : Nat) (t : Tr),t.sz ≤ m → t.pv ≤ t.sz:=by
      intro m
      induction m with
      | zero=>intro t h;have:=zBO t;omega
      | succ m ih =>
        intro t h
        match t,h with
        | .mk x ks,h =>
          rw [Tr.sz] at h
          have hl : ∀ ks : List Tr,szL ks ≤ m → pvL ks ≤ szL ks:=by
            intro ks
            induction ks with
            | nil=>intro _;simp [pvL]
            | cons k ks ihk =>
              intro h
              rw [szL] at h
              rw [pvL,szL]
              have:=ih k (by omega)
              have:=ihk (by omega)
              omega
          have:=hl ks (by omega)
          rw [Tr.pv,Tr.sz]
          split
          · omega
          · split <;> omega
    exact key _ k (Nat.le_refl _)
  refine ⟨hwk,⟨hA.e,hA.t,by have:=hA.n;omega,hA.ok,hA.st,by have:=hA.nx;have:=zBO k;omega⟩,a,t,N1,S1,S3,h1,h2,h3,⟨hi,h4,⟨hA.e,hA.t,?_,b3,c1.st (b1.st hA.st),?_⟩⟩,b1.st hA.st,b2,fun h0=>?_⟩
  · have:=hA.n;rw [b4,List.length_append,b5];omega
  · have:=hA.nx;have:=b1.lo;have:=b1.hi;have:=c1.lo;have:=c1.hi;omega
  · rw [b4,List.eq_nil_of_length_eq_zero (b5.trans h0),List.append_nil]
theorem PatAt.start {E : List Sg} {q : Nat} {x : Nd} {ks : List Tr} {N N' : List Lc} {S S' : TS} {r : List Nd} (hk : x.kind = 24) (hA : Ask E N S (Tr.mk x ks).sz) (h : (Tr.mk x ks).patS q E N S = some (r,N',S')) :
    ∃ c S1,zHj E S x.text = some (c,S1) ∧ r = (zBp c).2 ∧ c.length ≤ 10000 ∧ PatAt E q (zBp c).1 ks N' S' 0 N S1:=by
  obtain ⟨c,S1,h1,h2,h3⟩:=zVK hk h
  obtain ⟨b1,b2⟩:=zJu hA.t h1
  have hsz : (Tr.mk x ks).sz = szL ks + 1:=by rw [Tr.sz]
  rw [hsz] at hA
  refine ⟨c,S1,h1,h3,b2,Nat.zero_le _,by simpa using h2,hA.e,hA.t,by rw [List.drop_zero];have:=hA.n;omega,hA.ok,b1.st hA.st,?_⟩
  rw [List.drop_zero]
  have:=hA.nx;have:=b1.lo;have:=b1.hi
  omega
set_option maxHeartbeats 4000000 in
theorem zSR {L : List Nd} {E : List Sg} {q m : Nat} (hL : L.length ≤ 2000000) (ih : PatOk L E q m) (n : Nat) (x : Nd) (ks : List Tr) (N N' : List Lc) (S S' : TS) (r : List Nd) (hk : x.kind = 24) (hm : (Tr.mk x ks).sz ≤ m + 1) (h : At L n (.mk x ks)) (hw : (Tr.mk x ks).werr true = 0) (hA : Ask E N S (Tr.mk x ks).sz) (hp : (Tr.mk x ks).patS q E N S = some (r,N',S')) (hv : (Tr.mk x ks).pv = 0) :
    zAx Tryz.prog 70 [.ptr 0 0,.d (i64 (n : Int)),.d (tslN N)] (tyO L E S) (.pair (.d (zAc r)) (.d (tslN N))) (tyO L E S'):=by
  have hx:=h.here
  have hlen : n < L.length:=(List.getElem?_eq_some_iff.1 hx).1
  obtain ⟨c,S1,h1,rfl,hcl,hP⟩:=PatAt.start hk hA hp
  have hwk:=(zDC hw).2
  rw [Tr.pv,if_neg (by omega),if_pos hk] at hv
  have htd:=zJs L E S S1 x.text c hA.e hA.t (by have:=hA.nx;omega) h1
  have hpf:=zFt c (by omega)
  have hpa:=(zFz c).1
  have hkid:=zCm L (n : Int) hL
  have hkl:=h.kids_len
  have hkg : ∀ i,i < ks.length → (zBn L (n : Int))[i]? = some ((kidAt n ks i : Nat) : Int):=fun i hi=>h.kids_get hi
  have hat : ∀ i k,ks[i]? = some k → At L (kidAt n ks i) k:=fun i k hik=>h.kid hik
  have hsz : (Tr.mk x ks).sz = szL ks + 1:=by rw [Tr.sz]
  have hl24 : ks.length ≤ szL ks:=zFU ks
  have hLl:=h.len
  generalize (zBp c).1 = A at *
  generalize (zBp c).2 = to' at *
  generalize zBn L (n : Int) = KK at *
  clear hp hw h1
  refine zAw Tryz.func70 rfl Tryz.ntmps70 Tryz.results70 rfl rfl rfl ?_
  intro wb St0 X fx
  repeat' first | apply en_n|apply zAH|apply zAC|apply zAF|apply w0|(apply zBW;exact rfl;exact rfl;first|assumption|omega)|exact zAe rfl|(refine zAy [0,1,2] zKL (htd) ?_ rfl rfl (by decide) rfl rfl rfl rfl rfl rfl ?_;(repeat (refine zAI rfl ?_));exact zAM)|(refine zAX zFC hpf (zAZ rfl zAG))|(refine zAX zCj hkid (zAZ rfl (zAZ rfl zAG)))|(apply aJ (hd:=rfl);(first|exact zAn rfl|exact Co_bb rfl rfl rfl|exact Co_nn rfl);exact rfl;(with_reducible exact zAa);assumption;omega;exact fun _=>rfl)|(apply zBE (hd:=rfl) (hro:=rfl);(with_reducible exact zAp))|apply ay (hd:=rfl)|exact zAE rfl|exact zAD rfl|(apply zAf;exact rfl;(with_reducible exact zAb);exact rfl)|(apply zAr;exact rfl;(with_reducible exact zCU))|exact zBM rfl rfl|exact zAY rfl|exact zAR rfl|(apply zAS;exact rfl;(with_reducible first|exact fy_1|exact fn_0|exact fn_1))|(apply zAV;exact rfl;(with_reducible first|exact zAg|exact zAk|exact zA4);exact rfl;exact rfl)|(refine w0' ?_)|(apply zA0;exact rfl;exact rfl;exact rfl;(with_reducible exact zAb);exact rfl;exact rfl;exact rfl;exact rfl)|(apply zAU;exact rfl)|apply zAJ|apply zAT|apply eb_n
  refine zAs (α:=Nat × TS) (fun p=>PatAt E q A ks N' S' p.1 N p.2 ∧ pvL (ks.drop p.1) = 0) (fun p=>[(0,.ptr 0 0),(2,.d (tslN N)),(10,.d (zGl A)),(11,.d (zAc to')),(58,.d (zBv KK)),(59,.d (i64 (ks.length : Int))),(60,.d (i64 (p.1 : Int)))]) (fun p=>anch fx 0 (tyO L E S) (tyO L E p.2)) (fun p=>ks.length - p.1) (0,S1) ⟨hP,by simpa using hv⟩
    (zAL (zAA rfl (zAA rfl (zAA rfl (zAA rfl (zAA rfl (Le_d rfl (by rw [← hkl]) (zAA rfl zAW))))))) (zAB rfl rfl (zAB rfl rfl (zAB rfl rfl zAK))) rfl rfl) ?_
  rintro ⟨i,Si⟩ ⟨hPi,hvi⟩
  dsimp only at hPi hvi ⊢
  rcases Nat.lt_or_ge i ks.length with hlt | hge
  · have hik : ks[i]? = some ks[i]:=List.getElem?_eq_getElem hlt
    generalize ks[i] = k at hik
    obtain ⟨w1,w2,a,t,N1,S2,S3,g1,g2,g3,g4,g5,g6,g7⟩:=hPi.one hik hwk
    have hkv : k.pv = 0:=by rw [zJ6 hik] at hvi;omega
    have hvn : pvL (ks.drop (i + 1)) = 0:=by rw [zJ6 hik] at hvi;omega
    have hN1:=g7 hkv
    subst hN1
    have hkk:=hkg i hlt
    have hcp:=ih.a (kidAt n ks i) k N1 N1 Si S2 t (by have:=zCw (List.mem_of_getElem? hik);omega) (hat i k hik) w1 w2 g2 hkv
    have hal:=(List.getElem?_eq_some_iff.1 g1).1
    have hsm:=zDH L E S2 S3 q t a (by omega) (by have:=hpa a (List.mem_of_getElem? g1);omega) g5 g3
    clear hP hA hPi hkg hat
    skip
    repeat' first | apply en_n|apply zAH|apply zAC|apply zAF|apply w0|(apply zBK;exact rfl;exact rfl;first|assumption|omega)|exact zCV rfl|exact zGJ rfl|exact zGI rfl|(refine zAy [0,1,2] zGQ (hcp) ?_ rfl rfl (by decide) rfl rfl rfl rfl rfl rfl ?_;(repeat (refine zAI rfl ?_));exact zAM)|(refine zAy [0,1,2] zCZ (hsm) ?_ rfl rfl (by decide) rfl rfl rfl rfl rfl rfl ?_;(repeat (refine zAI rfl ?_));exact zAM)|(apply aJ (hd:=rfl);(first|exact zAn rfl|exact Co_bb rfl rfl rfl|exact Co_nn rfl);exact rfl;(with_reducible first|exact zBD|exact zCf);assumption;omega;exact fun _=>rfl)|apply ay (hd:=rfl)|exact zAE rfl|exact zAD rfl|(apply zAi;exact rfl;(with_reducible first|exact zAz|exact zAg))|(apply zBG;exact rfl;exact rfl)|exact zAY rfl|exact zAR rfl|(apply zAQ;exact rfl)|apply zAJ|apply zAT|apply eb_n
    all_goals first | omega | skip
    exact ⟨(i + 1,S3),⟨g4,hvn⟩,by show ks.length - (i + 1) < _;omega,zAL (zAA rfl (zAA rfl (zAA rfl (zAA rfl (zAA rfl (zAA rfl (zAA rfl zAW))))))) (zAB rfl rfl (zAB rfl rfl (zAB rfl rfl zAK))) rfl rfl⟩
  · have hrun:=hPi.run
    rw [List.drop_of_length_le hge,patL.eq_1] at hrun
    injection hrun with hrun;injection hrun with e1 e2;subst e1;subst e2
    skip
    repeat' first | apply en_n|apply zAH|apply zAC|apply zAF|apply w0|(apply zCJ;exact rfl;exact rfl;first|assumption|omega)|apply ay (hd:=rfl)|exact zAE rfl|exact zAD rfl|(apply zAU;exact rfl)|apply zAN|apply zAu|apply en_e|apply eb_e
    exact zAh ⟨zAL (zAA rfl (zAA rfl zAW)) (zAB rfl rfl (zAB rfl rfl (zAB rfl rfl zAK))) rfl rfl,rfl⟩
set_option maxHeartbeats 4000000 in
theorem zSP {L : List Nd} {E : List Sg} {q m : Nat} (hL : L.length ≤ 2000000) (ih : PatOk L E q m) (n : Nat) (x : Nd) (ks : List Tr) (N N' : List Lc) (S S' : TS) (r : List Nd) (hk : x.kind = 24) (hm : (Tr.mk x ks).sz ≤ m + 1) (h : At L n (.mk x ks)) (hw : (Tr.mk x ks).werr true = 0) (hA : Ask E N S (Tr.mk x ks).sz) (hp : (Tr.mk x ks).patS q E N S = some (r,N',S')) :
    zAx Tryz.prog 70 [.ptr 0 0,.d (i64 (n : Int)),.buf 3 (lnN N)] (tyO L E S ++ [bufN N]) (.pair (.d (zAc r)) (.buf 3 (lnN N'))) (tyO L E S' ++ [bufN N']):=by
  have hx:=h.here
  have hlen : n < L.length:=(List.getElem?_eq_some_iff.1 hx).1
  obtain ⟨c,S1,h1,rfl,hcl,hP⟩:=PatAt.start hk hA hp
  have hwk:=(zDC hw).2
  have htd:=zJs L E S S1 x.text c hA.e hA.t (by have:=hA.nx;omega) h1
  have hpf:=zFt c (by omega)
  have hpa:=(zFz c).1
  have hkid:=zCm L (n : Int) hL
  have hkl:=h.kids_len
  have hkg : ∀ i,i < ks.length → (zBn L (n : Int))[i]? = some ((kidAt n ks i : Nat) : Int):=fun i hi=>h.kids_get hi
  have hat : ∀ i k,ks[i]? = some k → At L (kidAt n ks i) k:=fun i k hik=>h.kid hik
  have hsz : (Tr.mk x ks).sz = szL ks + 1:=by rw [Tr.sz]
  have hl24 : ks.length ≤ szL ks:=zFU ks
  have hLl:=h.len
  generalize (zBp c).1 = A at *
  generalize (zBp c).2 = to' at *
  generalize zBn L (n : Int) = KK at *
  clear hp hw h1
  refine zAw Tryz.func70 rfl Tryz.ntmps70 Tryz.results70 rfl rfl rfl ?_
  intro wb St0 X fx
  repeat' first | apply en_n|apply zAH|apply zAC|apply zAF|apply w0|(apply zBW;exact rfl;exact rfl;first|assumption|omega)|exact zAe rfl|(refine zAy [0,1,2] zKL (htd) ?_ rfl rfl (by decide) rfl rfl rfl rfl rfl rfl ?_;(repeat (refine zAI rfl ?_));exact zAM)|(refine zAX zFC hpf (zAZ rfl zAG))|(refine zAX zCj hkid (zAZ rfl (zAZ rfl zAG)))|(apply aJ (hd:=rfl);(first|exact zAn rfl|exact Co_bb rfl rfl rfl|exact Co_nn rfl);exact rfl;(with_reducible exact zAa);assumption;omega;exact fun _=>rfl)|(apply zBE (hd:=rfl) (hro:=rfl);(with_reducible exact zAp))|apply ay (hd:=rfl)|exact zAE rfl|exact zAD rfl|(apply zAf;exact rfl;(with_reducible exact zAb);exact rfl)|(apply zAr;exact rfl;(with_reducible exact zCU))|exact zBM rfl rfl|exact zAY rfl|exact zAR rfl|(apply zAS;exact rfl;(with_reducible first|exact fy_1|exact fn_0|exact fn_1))|(apply zAV;exact rfl;(with_reducible first|exact zAg|exact zAk|exact zA4);exact rfl;exact rfl)|(refine w0' ?_)|(apply zA0;exact rfl;exact rfl;exact rfl;(with_reducible exact zAb);exact rfl;exact rfl;exact rfl;exact rfl)|(apply zAU;exact rfl)|apply zAJ|apply zAT|apply eb_n
  refine zAs (α:=Nat × List Lc × TS) (fun p=>PatAt E q A ks N' S' p.1 p.2.1 p.2.2) (fun p=>[(0,.ptr 0 0),(2,.buf 3 (lnN p.2.1)),(10,.d (zGl A)),(11,.d (zAc to')),(58,.d (zBv KK)),(59,.d (i64 (ks.length : Int))),(60,.d (i64 (p.1 : Int)))]) (fun p=>anch fx 0 (tyO L E S ++ [bufN N]) (tyO L E p.2.2 ++ [bufN p.2.1])) (fun p=>ks.length - p.1) (0,N,S1) hP
    (zAL (zAA rfl (zAA rfl (zAA rfl (zAA rfl (zAA rfl (Le_d rfl (by rw [← hkl]) (zAA rfl zAW))))))) (zAB rfl rfl (zAB rfl rfl (zAB rfl rfl (zAl rfl rfl rfl zAK)))) rfl rfl) ?_
  rintro ⟨i,Ni,Si⟩ hPi
  dsimp only at hPi ⊢
  rcases Nat.lt_or_ge i ks.length with hlt | hge
  · have hik : ks[i]? = some ks[i]:=List.getElem?_eq_getElem hlt
    generalize ks[i] = k at hik
    obtain ⟨w1,w2,a,t,N1,S2,S3,g1,g2,g3,g4,g5,g6,g7⟩:=hPi.one hik hwk
    have hkk:=hkg i hlt
    have hcp:=ih.c (kidAt n ks i) k Ni N1 Si S2 t (by have:=zCw (List.mem_of_getElem? hik);omega) (hat i k hik) w1 w2 g2
    have hal:=(List.getElem?_eq_some_iff.1 g1).1
    have hsm:=zDH L E S2 S3 q t a (by omega) (by have:=hpa a (List.mem_of_getElem? g1);omega) g5 g3
    clear hP hA hPi hkg hat
    skip
    repeat' first | apply en_n|apply zAH|apply zAC|apply zAF|apply w0|(apply zBK;exact rfl;exact rfl;first|assumption|omega)|exact zCV rfl|exact zGJ rfl|exact zGI rfl|(refine zAy [0,1,2,3] zGQ (hcp) ?_ rfl rfl (by decide) rfl rfl rfl rfl rfl rfl ?_;(repeat (refine zAI rfl ?_));exact zAM)|(refine zAy [0,1,2] zCZ (hsm) ?_ rfl rfl (by decide) rfl rfl rfl rfl rfl rfl ?_;(repeat (refine zAI rfl ?_));exact zAM)|(apply aJ (hd:=rfl);(first|exact zAn rfl|exact Co_bb rfl rfl rfl|exact Co_nn rfl);exact rfl;(with_reducible first|exact zBD|exact zCf);assumption;omega;exact fun _=>rfl)|apply ay (hd:=rfl)|exact zAE rfl|exact zAD rfl|(apply zAi;exact rfl;(with_reducible first|exact zAz|exact zAg))|(apply zBG;exact rfl;exact rfl)|exact zAY rfl|exact zAt rfl|exact zAj rfl|exact zAR rfl|(apply zAQ;exact rfl)|apply zAJ|apply zAT|apply eb_n
    all_goals first | omega | skip
    exact ⟨(i + 1,N1,S3),g4,by show ks.length - (i + 1) < _;omega,zAL (zAA rfl (zAA rfl (zAA rfl (zAA rfl (zAA rfl (zAA rfl (zAA rfl zAW))))))) (zAB rfl rfl (zAB rfl rfl (zAB rfl rfl (zAl rfl rfl rfl zAK)))) rfl rfl⟩
  · have hrun:=hPi.run
    rw [List.drop_of_length_le hge,patL.eq_1] at hrun
    injection hrun with hrun;injection hrun with e1 e2;subst e1;subst e2
    skip
    repeat' first | apply en_n|apply zAH|apply zAC|apply zAF|apply w0|(apply zCJ;exact rfl;exact rfl;first|assumption|omega)|apply ay (hd:=rfl)|exact zAE rfl|exact zAD rfl|exact zAt rfl|exact zAj rfl|(apply zAU;exact rfl)|apply zAN|apply zAu|apply en_e|apply eb_e
    exact zAh ⟨zAL (zAA rfl (zAA rfl zAW)) (zAB rfl rfl (zAB rfl rfl (zAB rfl rfl (zAl rfl rfl rfl zAK)))) rfl rfl,rfl⟩
set_option maxHeartbeats 4000000 in
theorem zSQ {L : List Nd} {E : List Sg} {q m : Nat} (hL : L.length ≤ 2000000) (ih : PatOk L E q m) (n : Nat) (x : Nd) (ks : List Tr) (N N' : List Lc) (S S' : TS) (r : List Nd) (hk : x.kind = 24) (hm : (Tr.mk x ks).sz ≤ m + 1) (h : At L n (.mk x ks)) (hw : (Tr.mk x ks).werr true = 0) (hA : Ask E N S (Tr.mk x ks).sz) (hp : (Tr.mk x ks).patS q E N S = some (r,N',S')) (hv : (Tr.mk x ks).pv ≠ 0) :
    zAx Tryz.prog 70 [.ptr 0 0,.d (i64 (n : Int)),.d (tslN N)] (tyO L E S ++ [bufN []]) (.pair (.d (zAc r)) (.buf 3 (lnN N'))) (tyO L E S' ++ [bufN N']):=by
  have hx:=h.here
  have hlen : n < L.length:=(List.getElem?_eq_some_iff.1 hx).1
  obtain ⟨c,S1,h1,rfl,hcl,hP⟩:=PatAt.start hk hA hp
  have hwk:=(zDC hw).2
  rw [Tr.pv,if_neg (by omega),if_pos hk] at hv
  have htd:=zJs L E S S1 x.text c hA.e hA.t (by have:=hA.nx;omega) h1
  have hpf:=zFt c (by omega)
  have hpa:=(zFz c).1
  have hkid:=zCm L (n : Int) hL
  have hkl:=h.kids_len
  have hkg : ∀ i,i < ks.length → (zBn L (n : Int))[i]? = some ((kidAt n ks i : Nat) : Int):=fun i hi=>h.kids_get hi
  have hat : ∀ i k,ks[i]? = some k → At L (kidAt n ks i) k:=fun i k hik=>h.kid hik
  have hsz : (Tr.mk x ks).sz = szL ks + 1:=by rw [Tr.sz]
  have hl24 : ks.length ≤ szL ks:=zFU ks
  have hLl:=h.len
  generalize (zBp c).1 = A at *
  generalize (zBp c).2 = to' at *
  generalize zBn L (n : Int) = KK at *
  clear hp hw h1
  refine zAw Tryz.func70 rfl Tryz.ntmps70 Tryz.results70 rfl rfl rfl ?_
  intro wb St0 X fx
  repeat' first | apply en_n|apply zAH|apply zAC|apply zAF|apply w0|(apply zBW;exact rfl;exact rfl;first|assumption|omega)|exact zAe rfl|(refine zAy [0,1,2] zKL (htd) ?_ rfl rfl (by decide) rfl rfl rfl rfl rfl rfl ?_;(repeat (refine zAI rfl ?_));exact zAM)|(refine zAX zFC hpf (zAZ rfl zAG))|(refine zAX zCj hkid (zAZ rfl (zAZ rfl zAG)))|(apply aJ (hd:=rfl);(first|exact zAn rfl|exact Co_bb rfl rfl rfl|exact Co_nn rfl);exact rfl;(with_reducible exact zAa);assumption;omega;exact fun _=>rfl)|(apply zBE (hd:=rfl) (hro:=rfl);(with_reducible exact zAp))|apply ay (hd:=rfl)|exact zAE rfl|exact zAD rfl|(apply zAf;exact rfl;(with_reducible exact zAb);exact rfl)|(apply zAr;exact rfl;(with_reducible exact zCU))|exact zBM rfl rfl|exact zAY rfl|exact zAR rfl|(apply zAS;exact rfl;(with_reducible first|exact fy_1|exact fn_0|exact fn_1))|(apply zAV;exact rfl;(with_reducible first|exact zAg|exact zAk|exact zA4);exact rfl;exact rfl)|(refine w0' ?_)|(apply zA0;exact rfl;exact rfl;exact rfl;(with_reducible exact zAb);exact rfl;exact rfl;exact rfl;exact rfl)|(apply zAU;exact rfl)|apply zAJ|apply zAT|apply eb_n
  refine zAs (α:=Nat × List Lc × TS × Bool) (fun p=>PatAt E q A ks N' S' p.1 p.2.1 p.2.2.1 ∧ (p.2.2.2 = false → p.2.1 = N ∧ pvL (ks.drop p.1) ≠ 0)) (fun p=>[(0,.ptr 0 0),(2,nmS p.2.2.2 N p.2.1),(10,.d (zGl A)),(11,.d (zAc to')),(58,.d (zBv KK)),(59,.d (i64 (ks.length : Int))),(60,.d (i64 (p.1 : Int)))]) (fun p=>anch fx 0 (tyO L E S ++ [bufN []]) (tyO L E p.2.2.1 ++ [nmO p.2.2.2 p.2.1])) (fun p=>ks.length - p.1) (0,N,S1,false) ⟨hP,fun _=>⟨rfl,by simpa using hv⟩⟩
    (zAL (zAA rfl (zAA rfl (zAA rfl (zAA rfl (zAA rfl (Le_d rfl (by rw [← hkl]) (zAA rfl zAW))))))) (zAB rfl rfl (zAB rfl rfl (zAB rfl rfl (zAl rfl rfl rfl zAK)))) rfl rfl) ?_
  rintro ⟨i,Ni,Si,f⟩ ⟨hPi,hfi⟩
  dsimp only at hPi hfi ⊢
  rcases Nat.lt_or_ge i ks.length with hlt | hge
  · have hik : ks[i]? = some ks[i]:=List.getElem?_eq_getElem hlt
    generalize ks[i] = k at hik
    obtain ⟨w1,w2,a,t,N1,S2,S3,g1,g2,g3,g4,g5,g6,g7⟩:=hPi.one hik hwk
    have hkk:=hkg i hlt
    have hks : k.sz ≤ m:=by have:=zCw (List.mem_of_getElem? hik);omega
    have hal:=(List.getElem?_eq_some_iff.1 g1).1
    have hsm:=zDH L E S2 S3 q t a (by omega) (by have:=hpa a (List.mem_of_getElem? g1);omega) g5 g3
    cases f with
    | true =>
      have hcp:=ih.c (kidAt n ks i) k Ni N1 Si S2 t hks (hat i k hik) w1 w2 g2
      clear hP hA hPi hkg hat
      skip
      repeat' first | apply en_n|apply zAH|apply zAC|apply zAF|apply w0|(apply zBK;exact rfl;exact rfl;first|assumption|omega)|exact zCV rfl|exact zGJ rfl|exact zGI rfl|(refine zAy [0,1,2,3] zGQ (hcp) ?_ rfl rfl (by decide) rfl rfl rfl rfl rfl rfl ?_;(repeat (refine zAI rfl ?_));exact zAM)|(refine zAy [0,1,2] zCZ (hsm) ?_ rfl rfl (by decide) rfl rfl rfl rfl rfl rfl ?_;(repeat (refine zAI rfl ?_));exact zAM)|(apply aJ (hd:=rfl);(first|exact zAn rfl|exact Co_bb rfl rfl rfl|exact Co_nn rfl);exact rfl;(with_reducible first|exact zBD|exact zCf);assumption;omega;exact fun _=>rfl)|apply ay (hd:=rfl)|exact zAE rfl|exact zAD rfl|(apply zAi;exact rfl;(with_reducible first|exact zAz|exact zAg))|(apply zBG;exact rfl;exact rfl)|exact zAY rfl|exact zAt rfl|exact zAj rfl|exact zAR rfl|(apply zAQ;exact rfl)|apply zAJ|apply zAT|apply eb_n
      all_goals first | omega | skip
      exact ⟨(i + 1,N1,S3,true),⟨g4,fun h=>by cases h⟩,by show ks.length - (i + 1) < _;omega,zAL (zAA rfl (zAA rfl (zAA rfl (zAA rfl (zAA rfl (zAA rfl (zAA rfl zAW))))))) (zAB rfl rfl (zAB rfl rfl (zAB rfl rfl (zAl rfl rfl rfl zAK)))) rfl rfl⟩
    | false =>
      obtain ⟨rfl,hvi⟩:=hfi rfl
      by_cases hkv : k.pv = 0
      · have hN1:=g7 hkv
        subst hN1
        have hvn : pvL (ks.drop (i + 1)) ≠ 0:=by rw [zJ6 hik] at hvi;omega
        have hcp:=ih.a (kidAt n ks i) k N1 N1 Si S2 t hks (hat i k hik) w1 w2 g2 hkv
        clear hP hA hPi hkg hat
        skip
        repeat' first | apply en_n|apply zAH|apply zAC|apply zAF|apply w0|(apply zBK;exact rfl;exact rfl;first|assumption|omega)|exact zCV rfl|exact zGJ rfl|exact zGI rfl|(refine zAy [0,1,2] zGQ (hcp) ?_ rfl rfl (by decide) rfl rfl rfl rfl rfl rfl ?_;(repeat (refine zAI rfl ?_));exact zAM)|(refine zAy [0,1,2] zCZ (hsm) ?_ rfl rfl (by decide) rfl rfl rfl rfl rfl rfl ?_;(repeat (refine zAI rfl ?_));exact zAM)|(apply aJ (hd:=rfl);(first|exact zAn rfl|exact Co_bb rfl rfl rfl|exact Co_nn rfl);exact rfl;(with_reducible first|exact zBD|exact zCf);assumption;omega;exact fun _=>rfl)|apply ay (hd:=rfl)|exact zAE rfl|exact zAD rfl|(apply zAi;exact rfl;(with_reducible first|exact zAz|exact zAg))|(apply zBG;exact rfl;exact rfl)|exact zAY rfl|exact zAR rfl|(apply zAQ;exact rfl)|apply zAJ|apply zAT|apply eb_n
        all_goals first | omega | skip
        exact ⟨(i + 1,N1,S3,false),⟨g4,fun _=>⟨rfl,hvn⟩⟩,by show ks.length - (i + 1) < _;omega,zAL (zAA rfl (zAA rfl (zAA rfl (zAA rfl (zAA rfl (zAA rfl (zAA rfl zAW))))))) (zAB rfl rfl (zAB rfl rfl (zAB rfl rfl (zAl rfl rfl rfl zAK)))) rfl rfl⟩
      · have hcp:=ih.b (kidAt n ks i) k Ni N1 Si S2 t hks (hat i k hik) w1 w2 g2 hkv
        clear hP hA hPi hkg hat
        skip
        repeat' first | apply en_n|apply zAH|apply zAC|apply zAF|apply w0|(apply zBK;exact rfl;exact rfl;first|assumption|omega)|exact zCV rfl|exact zGJ rfl|exact zGI rfl|(refine zAy [0,1,2,3] zGQ (hcp) ?_ rfl rfl (by decide) rfl rfl rfl rfl rfl rfl ?_;(repeat (refine zAI rfl ?_));exact zAM)|(refine zAy [0,1,2] zCZ (hsm) ?_ rfl rfl (by decide) rfl rfl rfl rfl rfl rfl ?_;(repeat (refine zAI rfl ?_));exact zAM)|(apply aJ (hd:=rfl);(first|exact zAn rfl|exact Co_bb rfl rfl rfl|exact Co_nn rfl);exact rfl;(with_reducible first|exact zBD|exact zCf);assumption;omega;exact fun _=>rfl)|apply ay (hd:=rfl)|exact zAE rfl|exact zAD rfl|(apply zAi;exact rfl;(with_reducible first|exact zAz|exact zAg))|(apply zBG;exact rfl;exact rfl)|exact zAY rfl|exact zAj rfl|exact zAR rfl|(apply zAQ;exact rfl)|apply zAJ|apply zAT|apply eb_n
        all_goals first | omega | skip
        exact ⟨(i + 1,N1,S3,true),⟨g4,fun h=>by cases h⟩,by show ks.length - (i + 1) < _;omega,zAL (zAA rfl (zAA rfl (zAA rfl (zAA rfl (zAA rfl (zAA rfl (zAA rfl zAW))))))) (zAB rfl rfl (zAB rfl rfl (zAB rfl rfl (zAl rfl rfl rfl zAK)))) rfl rfl⟩
  · have hrun:=hPi.run
    rw [List.drop_of_length_le hge,patL.eq_1] at hrun
    injection hrun with hrun;injection hrun with e1 e2;subst e1;subst e2
    cases f with
    | false =>
      obtain ⟨_,hvi⟩:=hfi rfl
      rw [List.drop_of_length_le hge] at hvi
      exact absurd rfl hvi
    | true =>
      skip
      repeat' first | apply en_n|apply zAH|apply zAC|apply zAF|apply w0|(apply zCJ;exact rfl;exact rfl;first|assumption|omega)|apply ay (hd:=rfl)|exact zAE rfl|exact zAD rfl|exact zAt rfl|exact zAj rfl|(apply zAU;exact rfl)|apply zAN|apply zAu|apply en_e|apply eb_e
      exact zAh ⟨zAL (zAA rfl (zAA rfl zAW)) (zAB rfl rfl (zAB rfl rfl (zAB rfl rfl (zAl rfl rfl rfl zAK)))) rfl rfl,rfl⟩
theorem zTb {L : List Nd} {E : List Sg} {q : Nat} (hL : L.length ≤ 2000000) : ∀ m,PatOk L E q m
  | 0=>⟨fun n p N N' S S' r hm=>by have:=zBO p;omega,fun n p N N' S S' r hm=>by have:=zBO p;omega,fun n p N N' S S' r hm=>by have:=zBO p;omega⟩
  | m + 1=>by
    have ih:=zTb (E:=E) (q:=q) hL m
    have ask1 : ∀ {N S} {t : Tr},Ask E N S t.sz → Ask E N S 1:=fun {N S t} h=>⟨h.e,h.t,by have:=h.n;have:=zBO t;omega,h.ok,h.st,by have:=h.nx;have:=zBO t;omega⟩
    refine ⟨fun n p N N' S S' r hm h hw hA hp hv=>?_,fun n p N N' S S' r hm h hw hA hp hv=>?_,fun n p N N' S S' r hm h hw hA hp=>?_⟩ <;> (obtain ⟨x,ks⟩:=p;obtain ⟨hk1,hk2⟩:=zQA hw)
    · by_cases hk : x.kind = 24
      · exact zSR hL ih n x ks N N' S S' r hk hm h hw hA hp hv
      · refine (zJ9 hL n x ks N N' S S' r h.here (ask1 hA) hk hk1 hp).1 fun h22=>?_
        rw [Tr.pv,if_pos h22] at hv;cases hv
    · by_cases hk : x.kind = 24
      · exact zSQ hL ih n x ks N N' S S' r hk hm h hw hA hp hv
      · refine (zJ9 hL n x ks N N' S S' r h.here (ask1 hA) hk hk1 hp).2.1 ?_
        by_cases h22 : x.kind = 22
        · exact h22
        · rw [Tr.pv,if_neg h22,if_neg hk] at hv;exact absurd rfl hv
    · by_cases hk : x.kind = 24
      · exact zSP hL ih n x ks N N' S S' r hk hm h hw hA hp
      · exact (zJ9 hL n x ks N N' S S' r h.here (ask1 hA) hk hk1 hp).2.2
end Go.Proofs.YtblomnkamngnbaaGreatDoor
