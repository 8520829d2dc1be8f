/- Texts of this claim, merged: InfJ, InfK, InfL, InfXA, InfXB, InfXC, InfXD, InfXE. -/
import Derived.Test.YtblomnkamngnbaaGreatDoorMAI
import Derived.Test.YtblomnkamngnbaaGreatDoorMAO
import Derived.Test.YtblomnkamngnbaaGreatDoorMBH
namespace Go.Proofs.YtblomnkamngnbaaGreatDoor
open Go.Sx
attribute [local irreducible] zAO Program.underlying Ylds zA3 alex zBY zBN awp zAm zBT zBe zAx zBA zBP zA2 zBR zBX zBa zBq zBI zET VCall
theorem zWr {η : List Ob} {σ : Sl} {i : Nat} {x : Operand} {r : List (Nat × Operand)} {s : List (Nat × D)} {id n e sz : Nat} {ys : List D} (h : oval σ x = .buf id n) (ho : η[id]? = some (.buf false e sz ys)) (hn : n ≤ ys.length) (k : zFL η σ r s) : zFL η σ ((i,x) :: r) ((i,.slice (ys.take n)) :: s):=⟨by simp,by rw [h];exact ⟨e,sz,ys,ho,hn,rfl⟩,rfl,k⟩
theorem zI2 {q : Nat} : ∀ (N : List Lc) {S S' : TS} {b : List Int},zB3 q N S = some (b,S') → ∀ i : Nat,∃ bi Si,zB3 q (N.take i) S = some (bi,Si) ∧ ∃ br,zB3 q (N.drop i) Si = some (br,S') ∧ b = bi ++ br
  | N,S,S',b,h,0=>⟨[],S,by simp [zB3],b,by simpa using h,rfl⟩
  | [],S,S',b,h,i + 1=>⟨b,S',by simpa using h,[],by simp [zB3],by simp⟩
  | l :: r,S,S',b,h,i + 1=>by
    rw [zB3] at h
    split at h
    · rename_i u S1 h1
      split at h
      · rename_i b2 S2 h2
        injection h with h;injection h with e1 e2;subst e1;subst e2
        obtain ⟨bi,Si,h3,br,h4,rfl⟩:=zI2 r h2 i
        exact ⟨zBb u ++ bi,Si,by rw [List.take_succ_cons,zB3,h1];dsimp only;rw [h3],br,by rw [List.drop_succ_cons];exact h4,by simp⟩
      · cases h
    · cases h
theorem zPB {q : Nat} {N : List Lc} {i : Nat} {l : Lc} (hl : N[i]? = some l) {S Si S2 : TS} {bi b2 : List Int} (h1 : zB3 q (N.take i) S = some (bi,Si)) (h2 : zB3 q (N.take (i + 1)) S = some (b2,S2)) : ∃ u,zCI q Si (zDp (zCe l.any) l.t) = some (u,S2) ∧ b2 = bi ++ zBb u:=by
  induction N generalizing S bi b2 i with
  | nil=>simp at hl
  | cons m r ih =>
    cases i with
    | zero =>
      simp at hl;subst hl
      simp only [List.take_zero,zB3,Option.some.injEq,Prod.mk.injEq] at h1
      obtain ⟨rfl,rfl⟩:=h1
      simp only [Nat.zero_add,List.take_succ_cons,List.take_zero,zB3] at h2
      split at h2
      · rename_i u S1 hu
        simp at h2
        obtain ⟨rfl,rfl⟩:=h2
        exact ⟨u,hu,rfl⟩
      · cases h2
    | succ i =>
      rw [List.take_succ_cons,zB3] at h1 h2
      split at h1
      · rename_i u S1 hu
        rw [hu] at h2
        dsimp only at h2
        split at h1
        · rename_i b3 S3 h3
          split at h2
          · rename_i b4 S4 h4
            injection h1 with h1;injection h1 with e1 e2;subst e1;subst e2
            injection h2 with h2;injection h2 with e1 e2;subst e1;subst e2
            obtain ⟨w,h5,h6⟩:=ih (by simpa using hl) h3 h4
            exact ⟨w,h5,by rw [h6,List.append_assoc]⟩
          · cases h2
        · cases h1
      · cases h1
theorem zF2 {q : Nat} {S S' : TS} {t r : List Nd} (h : zCI q S t = some (r,S')) (ht : t.length ≤ 10000) : r.length ≤ 10000:=by
  unfold zCI at h
  repeat' split at h
  all_goals first
    | (injection h with h;injection h with h1 h2;subst h1;assumption)
    | cases h
theorem zGa {t : List Nd} : (zBb t).length ≤ 4000:=by
  unfold zBb;split
  · rename_i h1
    have h2:=(zDJ h1).1
    have:=zFQ t []
    unfold zBu;simp only [List.length_nil] at this;omega
  · simp
theorem zGs {q : Nat} {S S' : TS} {t r : List Nd} (h : zCI q S t = some (r,S')) : S'.st = S.st ∧ S'.nx = S.nx:=by
  unfold zCI zG0 at h
  repeat' split at h
  all_goals first
    | (injection h with h;injection h with h1 h2;subst h2;exact ⟨rfl,rfl⟩)
    | cases h
theorem zI3 {q : Nat} : ∀ (N : List Lc) {S S' : TS} {b : List Int},zB3 q N S = some (b,S') → S'.st = S.st ∧ S'.nx = S.nx
  | [],S,S',b,h=>by simp [zB3] at h;obtain ⟨_,rfl⟩:=h;exact ⟨rfl,rfl⟩
  | l :: r,S,S',b,h=>by
    rw [zB3] at h
    split at h
    · rename_i u S1 h1
      split at h
      · rename_i b2 S2 h2
        injection h with h;injection h with e1 e2;subst e1;subst e2
        have h3:=zI3 r h2
        have h4:=zGs h1
        exact ⟨h3.1.trans h4.1,h3.2.trans h4.2⟩
      · cases h
    · cases h
set_option maxHeartbeats 4000000 in
theorem zTu (L : List Nd) (E : List Sg) (S S' : TS) (q : Nat) (x : List UInt8) (t : List Nd) (N : List Lc) (l : Lc) (ht : t.length ≤ 10000) (hN : N.length ≤ 100000) (hNt : ∀ l ∈ N,l.t.length ≤ 10000 ∧ l.any.length ≤ 1000000) (hL : StoB S.st)
    (h : anyS q N S x t = some (l,S')) :
    zAx Tryz.prog 69 [.ptr 0 0,.d (str x),.d (zAc t),.d (locs N)] (tyO L E S) (.d l.av) (tyO L E S'):=by
  unfold anyS at h
  split at h
  · rename_i u S1 h1
    split at h
    · rename_i b S2 h2
      injection h with h;injection h with e1 e2;subst e1;subst e2
      have hul:=zF2 h1 ht
      have hst:=zGs h1
      have hk:=zKF L E S S1 q t u (by omega) hL h1
      refine zQI Tryz.func69 rfl Tryz.ntmps69 Tryz.results69 rfl rfl rfl ?_
      intro wb St0 X fx
      repeat' first | (refine zHg 4 0 false 3 1 rfl rfl rfl ?_)|apply en_n|apply zAH|apply zAC|apply zAF|apply w0|(refine zAy [0,1,2] zHy (hk) ?_ rfl rfl (by decide) rfl rfl rfl rfl rfl rfl ?_;(repeat (refine zAI rfl ?_));exact zAM)|(apply zBE (hd:=rfl) (hro:=rfl);(with_reducible first|exact zFJ|exact zU8))|apply ay (hd:=rfl)|exact zAE rfl|exact zAD rfl|(apply zAr;exact rfl;(with_reducible exact zDS))|exact zAR rfl|apply zAJ
      have hb0:=zI2 N h2
      have hbl : ∀ (i : Nat) bi Si,zB3 q (N.take i) S1 = some (bi,Si) → bi.length ≤ 4000 * i ∧ Si.st = S1.st:=fun i bi Si hbi=>⟨by
        have key : ∀ (M : List Lc) (T T' : TS) (c : List Int),zB3 q M T = some (c,T') → (∀ l ∈ M,l ∈ N) → T.st = S.st → c.length ≤ 4000 * M.length:=by
          intro M
          induction M with
          | nil=>intro T T' c hc _ _;simp [zB3] at hc;simp [hc.1.symm]
          | cons m M ih =>
            intro T T' c hc hm hT
            rw [zB3] at hc
            split at hc
            · rename_i w T1 hw
              split at hc
              · rename_i c2 T2 hc2
                injection hc with hc;injection hc with e1 e2;subst e1;subst e2
                have h5:=ih T1 _ c2 hc2 (fun l hl=>hm l (List.mem_cons_of_mem _ hl)) ((zGs hw).1.trans hT)
                have h6:=(hNt m (hm m List.mem_cons_self))
                have h8:=zGa (t:=w)
                rw [List.length_append,List.length_cons];omega
              · cases hc
            · cases hc
        have:=key (N.take i) S1 Si bi hbi (fun l hl=>List.mem_of_mem_take hl) hst.1
        rw [List.length_take] at this
        have : min i N.length ≤ i:=Nat.min_le_left _ _
        omega,(zI3 _ hbi).1⟩
      refine zAs (α:=Nat × List Int × TS) (fun p=>p.1 ≤ N.length ∧ zB3 q (N.take p.1) S1 = some (p.2.1,p.2.2)) (fun p=>[(0,.ptr 0 0),(1,.d (str x)),(2,.d (zAc u)),(8,.ptr 3 0),(9,.ptr 4 0),(17,.d (locs N)),(18,.d (i64 (N.length : Int))),(19,.d (i64 (p.1 : Int)))]) (fun p=>anch fx 0 (tyO L E S) (tyO L E p.2.2) ++ [.bx none none [.d (.val (.string ByteArray.empty)),.nil,.nil],.bx none none [.buf 5 (p.2.1.map ival).length],.buf false 3 1 (p.2.1.map ival)]) (fun p=>N.length - p.1) (0,[],S1) ⟨Nat.zero_le _,by simp [zB3]⟩
        (zAL (zAA rfl (zAA rfl (zAA rfl (zAA rfl (zAA rfl (zAA rfl (Le_d rfl rfl (zAA rfl zAW)))))))) (zAB rfl rfl (zAB rfl rfl (zAB rfl rfl (zAB rfl rfl (zAB rfl rfl (zAl rfl rfl rfl zAK)))))) rfl rfl) ?_
      rintro ⟨i,bi,Si⟩ ⟨hi,hbi⟩
      dsimp only at hi hbi ⊢
      obtain ⟨hbil,hSi⟩:=hbl i bi Si hbi
      have hLi : StoB Si.st:=by rw [hSi,hst.1];exact hL
      rcases Nat.lt_or_ge i N.length with hlt | hge
      · have hl : N[i]? = some N[i]:=List.getElem?_eq_getElem hlt
        have hm:=hNt _ (List.getElem_mem hlt)
        generalize N[i] = m at *
        obtain ⟨b2,Sn,hb2,_⟩:=hb0 (i + 1)
        obtain ⟨w,hkw,rfl⟩:=zPB hl hbi hb2
        have hal : (zDp (zCe m.any) m.t).length ≤ 10000:=by
          have h7:=zKa (l:=zCe m.any) 1 (fun b hb=>by
            obtain ⟨v,_,rfl⟩:=List.mem_map.1 hb;exact Nat.le_refl _) (Nat.le_refl _) m.t
          unfold zDp;omega
        have hwl:=zF2 hkw hal
        have hkc:=zKF L E Si Sn q _ w (by omega) hLi hkw
        have hhd:=zQZ m.any (by omega)
        have hap:=zOU (zCe m.any) m.t (by simp [zCe];omega) hm.1 (fun b hb=>by
          obtain ⟨v,_,rfl⟩:=List.mem_map.1 hb;show (zBC intT).length ≤ _;simp [zBC])
        have hvs:=zKt w (by omega)
        have hvl:=zGa (t:=w)
        clear hb0 hbl hkw hk h1 h2 hNt
        skip
        repeat' first | apply en_n|apply zAH|apply zAC|apply zAF|apply w0|(apply zBK;exact rfl;exact rfl;first|assumption|omega)|(refine zAX zQg hhd (zAZ rfl zAG))|(refine zAX zN5 hap (zAZ rfl (zAZ rfl zAG)))|(refine zAX zIk hvs (zAZ rfl zAG))|(refine zDF (by kernel_rfl) ?_;refine zAy [0,1,2] zHy (hkc) ?_ rfl rfl (by decide) rfl rfl rfl rfl rfl rfl ?_;(repeat (refine zAI rfl ?_));exact zAM)|(apply aApp (id:=5) (hd:=rfl) (hro:=rfl);exact rfl;exact rfl;(first|exact zAn rfl|exact Co_bb rfl rfl rfl|exact Co_nn rfl);(first|exact rfl|exact (by simp));exact rfl;(with_reducible exact zDh);(with_reducible exact zBD);(with_reducible exact zKv);(with_reducible exact zI0);(first|exact zCc (fun _=>rfl)|exact zCP rfl))|(apply aJ (hd:=rfl);(first|exact zAn rfl|exact Co_bb rfl rfl rfl|exact Co_nn rfl);exact rfl;(with_reducible exact zBy);assumption;omega;exact fun _=>rfl)|(apply zBE (hd:=rfl) (hro:=rfl);(with_reducible exact zFJ))|apply ay (hd:=rfl)|exact zAE rfl|exact zAD rfl|(apply zAf;exact rfl;(with_reducible exact zHc);exact rfl)|(apply zBG;exact rfl;exact rfl)|exact zAR rfl|(apply zAS;exact rfl;(with_reducible first|exact fl_1|exact fl_2))|(apply zAV;exact rfl;(with_reducible first|exact zAg|exact zJw);exact rfl;exact rfl)|(refine w0' ?_)|(apply zA0;exact rfl;exact rfl;exact rfl;(with_reducible first|exact zHc|exact zJw);exact rfl;exact rfl;exact rfl;exact rfl)|(apply zAQ;exact rfl)|apply zAJ|apply zAT|refine zBQ (by kernel_rfl) (by kernel_rfl) ?_|apply eb_n
        all_goals first | omega | skip
        · simp only [List.length_map];omega
        · exact ⟨(i + 1,bi ++ zBb w,Sn),⟨hlt,hb2⟩,by show N.length - (i + 1) < _;omega,zAL (zAA rfl (zAA rfl (zAA rfl (zAA rfl (zAA rfl (zAA rfl (zAA rfl (zAA rfl zAW)))))))) (zAB rfl rfl (zAB rfl rfl (zAB rfl rfl (zAB rfl rfl (zAB rfl (congrArg (fun k=>Ob.bx none none [SV.buf 5 k]) (show ((bi ++ zBb w).map ival).length = (bi.map ival).length + ((zBb w).map ival).length by rw [List.map_append,List.length_append])) (zAl rfl rfl (by rw [List.map_append]) zAK)))))) rfl rfl⟩
      · have e1 : N.take i = N:=List.take_of_length_le hge
        rw [e1,h2] at hbi
        injection hbi with hbi;injection hbi with e2 e3;subst e2;subst e3
        have hvf:=zTL u (by omega)
        have hvl:=zGa (t:=u)
        have hdl:=zU5 (zBb u) b (by omega) (by omega)
        have hkl:=zNt (zBb u) b
        generalize zBb u = vs at *
        have hkt : (kept vs b).length ≤ ((kept vs b).map ival ++ List.replicate (vs.length - (kept vs b).length) (ival 0)).length:=by simp
        clear hb0 hbl hk h1 h2 hNt
        skip
        repeat' first | (refine zGU 13 6 rfl rfl rfl ?_)|apply en_n|apply zAH|apply zAC|apply zAF|apply w0|(apply zCJ;exact rfl;exact rfl;first|assumption|omega)|(refine zRX zIk hvf (zAZ rfl zAG) rfl rfl ?_)|(refine zAy [6,4,5] zUZ (hdl) ?_ rfl rfl (by decide) rfl rfl rfl rfl rfl rfl ?_;(repeat (refine zAI rfl ?_));exact zAM)|(apply zBS (cs:=[str x,zAc u,.slice (((kept vs b).map ival ++ List.replicate (vs.length - (kept vs b).length) (ival 0)).take (kept vs b).length)]);exact zHe;exact zFJ;exact PD_d rfl rfl (PD_d rfl rfl (zWr rfl rfl hkt zCF));exact rfl)|apply ay (hd:=rfl)|exact zAE rfl|exact zAt rfl|exact zAj rfl|exact zGV rfl|(refine w0' ?_)|(apply zA0;exact rfl;exact rfl;exact rfl;(with_reducible exact zHc);exact rfl;exact rfl;exact rfl;exact rfl)|(apply zAU;exact rfl)|apply zAN|apply zAu|apply en_e|apply eb_e
        have hkf : kept vs b = vs.filter fun v=>!b.contains v:=by
          unfold kept
          refine List.filter_congr fun v _=>?_
          by_cases hvb : v ∈ b <;> simp [hvb]
        have htk : ((kept vs b).map ival ++ List.replicate (vs.length - (kept vs b).length) (ival 0)).take (kept vs b).length = (kept vs b).map ival:=by
          rw [show (kept vs b).length = ((kept vs b).map ival).length by rw [List.length_map],List.take_left]
        refine zOp (zJ4 (RV_c rfl rfl zHc rfl rfl zGK ?_)) (zAL zAW (zAB rfl rfl (zAB rfl rfl (zAB rfl rfl zAK))) rfl rfl)
        rw [← hkf,htk];rfl
    · cases h
  · cases h
end Go.Proofs.YtblomnkamngnbaaGreatDoor
namespace Go.Proofs.YtblomnkamngnbaaGreatDoor
open Go.Sx
def LcOk (l : Lc) : Prop:=l.t.length ≤ 10000 ∧ l.any.length ≤ 4000
def LcsOk (N : List Lc) : Prop:=∀ l ∈ N,LcOk l
theorem LcsOk.app {N : List Lc} {l : Lc} (h : LcsOk N) (hl : LcOk l) : LcsOk (N ++ [l]):=fun m hm=>by
  rcases List.mem_append.1 hm with h1 | h1
  · exact h m h1
  · rw [List.mem_singleton] at h1;subst h1;exact hl
structure Up (S S' : TS) (k : Nat) : Prop where
  lo : S.nx ≤ S'.nx
  hi : S'.nx ≤ S.nx + k
  st : StoB S.st → StoB S'.st
theorem Up.refl (S : TS) : Up S S 0:=⟨Int.le_refl _,by omega,id⟩
theorem Up.trans {A B D : TS} {a b : Nat} (h : Up A B a) (k : Up B D b) : Up A D (a + b):=⟨Int.le_trans h.lo k.lo,by have:=h.hi;have:=k.hi;omega,fun hs=>k.st (h.st hs)⟩
theorem Up.mono {A B : TS} {a b : Nat} (h : Up A B a) (hab : a ≤ b) : Up A B b:=⟨h.lo,by have:=h.hi;omega,h.st⟩
theorem zCY (S : TS) : Up S (zB7 S) 1:=⟨by rw [zGm];omega,by rw [zGm];omega,fun h=>by rw [zNn];exact h⟩
theorem zCB {q : Nat} {S S' : TS} {a b : List Nd} (h : zCy q S a b = some S') : Up S S' 0:=by
  unfold zCy at h
  split at h
  · injection h with h;subst h;exact Up.refl S
  · split at h
    · rename_i e L hu
      injection h with h
      have hb : StoB S.st → StoB L:=fun hs=>by
        unfold uniF at hu
        split at hu
        · injection hu with hu;injection hu with h1 h2;subst h2;exact hs
        · rename_i hc
          exact zJ2 _ _ _ _ _ hs hu
      subst h
      split
      · exact ⟨by unfold zG0;split <;> simp,by unfold zG0;split <;> simp,fun hs=>by unfold zG0;split <;> exact hb hs⟩
      · exact ⟨Int.le_refl _,by simp,hb⟩
    · cases h
theorem zQO {q : Nat} {S S' : TS} {t r : List Nd} (h : zCI q S t = some (r,S')) : Up S S' 0:=by
  have:=zGs h
  exact ⟨by omega,by omega,fun hs=>by rw [this.1];exact hs⟩
theorem zQm (vs : List Int) (S : TS) : Up S (zCC vs S).2 vs.length:=by
  rw [zFD]
  exact ⟨by rw [zLO];omega,by rw [zLO];omega,fun h=>by rw [zTc];exact h⟩
theorem zMI {l : List Bd} (h : ∀ b ∈ l,b.ty.length = 1) : ∀ t : List Nd,(zDp l t).length = t.length
  | []=>rfl
  | n :: t=>by
    have ih:=zMI h t
    unfold zDp at ih ⊢
    rw [List.flatMap_cons,List.length_append,ih,List.length_cons]
    have : (app1 l n).length = 1:=by
      unfold app1
      split
      · split
        · rename_i b hb;exact h b (List.mem_of_find?_eq_some hb)
        · rfl
      · rfl
    omega
theorem zJX (S : TS) (t : List Nd) (vs : List Int) : (zB0 S t vs).1.length = t.length:=zMI (fun _ hb=>zLm hb) t
theorem zLl (S : TS) (t : List Nd) (vs : List Int) : Up S (zB0 S t vs).2 vs.length:=zQm vs S
theorem zEi (t : List Nd) : (zBb t).length ≤ 4000:=zGa
theorem zJu {E : List Sg} {S S' : TS} {x : List UInt8} {r : List Nd} (hT : ∀ s ∈ E,s.ty.length ≤ 10000) (h : zHj E S x = some (r,S')) : Up S S' 4000 ∧ r.length ≤ 10000:=by
  unfold zHj at h
  split at h
  · rename_i s hs
    have h1:=zLl S s.ty (zBb s.ty)
    have h2:=zJX S s.ty (zBb s.ty)
    injection h with h
    rw [h] at h1 h2
    exact ⟨h1.mono (zEi _),by dsimp only at h2;rw [h2];exact hT s (List.mem_of_find?_eq_some hs)⟩
  · cases h
theorem zLQ {E : List Sg} {N : List Lc} {S S' : TS} {x : List UInt8} {r : List Nd} (hT : ∀ s ∈ E,s.ty.length ≤ 10000) (hN : LcsOk N) (h : zEn E N S x = some (r,S')) : Up S S' 4000 ∧ r.length ≤ 10000:=by
  unfold zEn at h
  split at h
  · rename_i l hl
    have h0:=hN l (List.mem_reverse.1 (List.mem_of_find?_eq_some hl))
    have h1:=zLl S l.t l.any
    have h2:=zJX S l.t l.any
    injection h with h
    rw [h] at h1 h2
    exact ⟨h1.mono h0.2,by dsimp only at h2;rw [h2];exact h0.1⟩
  · exact zJu hT h
theorem zRH {q : Nat} {N : List Lc} {S S' : TS} {b : List Int} (h : zB3 q N S = some (b,S')) : Up S S' 0:=by
  have:=zI3 N h
  exact ⟨by omega,by omega,fun hs=>by rw [this.1];exact hs⟩
theorem zKl {q : Nat} {N : List Lc} {S S' : TS} {x : List UInt8} {t : List Nd} {l : Lc} (ht : t.length ≤ 10000) (h : anyS q N S x t = some (l,S')) : Up S S' 0 ∧ LcOk l:=by
  unfold anyS at h
  split at h
  · rename_i u S1 h1
    split at h
    · rename_i b S2 h2
      injection h with h;injection h with e1 e2;subst e1;subst e2
      exact ⟨(zQO h1).trans (zRH h2),zF2 h1 ht,Nat.le_trans (List.length_filter_le _ _) (zEi _)⟩
    · cases h
  · cases h
theorem zFz (t : List Nd) : (∀ a ∈ (zBp t).1,a.length ≤ 4000) ∧ (zBp t).2.length ≤ 4000 ∧ (zBp t).1.length ≤ 4000:=by
  by_cases hc : ckT t = 0
  · obtain ⟨T,rfl,hw,hr,hs⟩:=zKi hc
    rw [zE6 hw hc]
    obtain ⟨h1,h2,_⟩:=zHQ _ T (Nat.le_refl _)
    exact ⟨fun a ha=>Nat.le_trans (h2 a ha) hs,by omega,by omega⟩
  · rw [zBp,if_neg hc];simp
mutual
def Tr.pv : Tr → Nat
  | .mk x ks=>if x.kind = 22 then 1 else if x.kind = 24 then pvL ks else 0
def pvL : List Tr → Nat
  | []=>0
  | t :: r=>t.pv + pvL r
end
theorem zKA {q : Nat} {E : List Sg} (hT : ∀ s ∈ E,s.ty.length ≤ 10000) : ∀ (m : Nat) (t : Tr),t.sz ≤ m → t.werr true = 0 → ∀ {N N' : List Lc} {S S' : TS} {r : List Nd},LcsOk N → t.patS q E N S = some (r,N',S') → Up S S' (4001 * t.sz) ∧ r.length ≤ 10000 ∧ LcsOk N' ∧ ∃ M,N' = N ++ M ∧ M.length = t.pv
  | 0,t,h=>by have:=zBO t;omega
  | m + 1,.mk x ks,hm=>by
    intro hw N N' S S' r hN h
    have hsz : (Tr.mk x ks).sz = szL ks + 1:=by rw [Tr.sz]
    rw [Tr.patS] at h
    by_cases h23 : x.kind = 23
    · rw [if_pos h23] at h
      injection h with h;injection h with e1 e2;injection e2 with e2 e3;subst e1;subst e2;subst e3
      exact ⟨(Up.refl S).mono (by omega),by simp [zBC],hN,[],by simp,by rw [Tr.pv,if_neg (by omega),if_neg (by omega)];rfl⟩
    · rw [if_neg h23] at h
      by_cases h21 : x.kind = 21
      · rw [if_pos h21] at h
        injection h with h;injection h with e1 e2;injection e2 with e2 e3;subst e1;subst e2;subst e3
        exact ⟨(zCY S).mono (by omega),by simp [varN],hN,[],by simp,by rw [Tr.pv,if_neg (by omega),if_neg (by omega)];rfl⟩
      · rw [if_neg h21] at h
        by_cases h22 : x.kind = 22
        · rw [if_pos h22] at h
          injection h with h;injection h with e1 e2;injection e2 with e2 e3;subst e1;subst e2;subst e3
          exact ⟨(zCY S).mono (by omega),by simp [varN],hN.app ⟨by simp [varN],by simp⟩,[_],rfl,by rw [Tr.pv,if_pos h22];rfl⟩
        · rw [if_neg h22] at h
          have h24 : x.kind = 24:=by
            have h1:=zCv (zDC hw).1
            have h3:=h1.2.1
            have h4 : 21 ≤ x.kind ∧ x.kind ≤ 24:=by simpa [patK] using h3
            omega
          split at h
          · rename_i c S1 h1
            split at h
            · rename_i N2 S2 h2
              injection h with h;injection h with e1 e2;injection e2 with e2 e3;subst e1;subst e2;subst e3
              obtain ⟨b1,b2⟩:=zJu hT h1
              have hwk:=(zDC hw).2
              have key : ∀ (ks : List Tr) (i : Nat) (A : List (List Nd)) {N N2 : List Lc} {S S2 : TS},szL ks ≤ m → zC6 (decide (x.kind = 10)) true ks i = 0 → LcsOk N → patL q E A ks N S = some (N2,S2) → Up S S2 (4001 * szL ks) ∧ LcsOk N2 ∧ ∃ M,N2 = N ++ M ∧ M.length = pvL ks:=by
                intro ks
                induction ks with
                | nil =>
                  intro i A N N2 S S2 _ _ hN h
                  rw [patL.eq_1] at h
                  injection h with h;injection h with e1 e2;subst e1;subst e2
                  exact ⟨(Up.refl S).mono (by omega),hN,[],by simp,by simp [pvL]⟩
                | cons k ks ihk =>
                  intro i A N N2 S S2 hs hw hN h
                  rw [szL] at hs
                  have hkp:=zBO k
                  rw [zC6] at hw
                  split at hw
                  · contradiction
                  rename_i hw1
                  cases A with
                  | nil=>rw [patL] at h;cases h
                  | cons a A =>
                    rw [patL] at h
                    split at h
                    · rename_i t N1 S1 h1
                      split at h
                      · rename_i S3 h3
                        obtain ⟨c1,c2,c3,M1,c4,c5⟩:=zKA hT m k (by omega) (by simpa using hw1) hN h1
                        obtain ⟨d1,d2,M2,d3,d4⟩:=ihk (i + 1) A (by omega) hw c3 h
                        refine ⟨((c1.trans (zCB h3)).trans d1).mono (by rw [szL,Nat.mul_add];omega),d2,M1 ++ M2,by rw [d3,c4,List.append_assoc],by rw [List.length_append,c5,d4,pvL]⟩
                      · cases h
                    · cases h
              obtain ⟨d1,d2,d3⟩:=key ks 0 _ (by omega) hwk hN h2
              exact ⟨(b1.trans d1).mono (by rw [hsz,Nat.mul_add];omega),Nat.le_trans (zFz c).2.1 (by omega),d2,by rw [Tr.pv,if_neg h22,if_pos h24];exact d3⟩
            · cases h
          · cases h
end Go.Proofs.YtblomnkamngnbaaGreatDoor
namespace Go.Proofs.YtblomnkamngnbaaGreatDoor
open Go.Sx
section
variable {q : Nat} {E : List Sg} {x : Nd} {N : List Lc} {S S' : TS} {r : List Nd} {a b c k : Tr} {ks : List Tr}
theorem zIr (t : Tr) (h0 : S.er ≠ 0) : t.expS q E N S = some (zBC intT,S):=by
  cases t;rw [Tr.expS,if_pos h0]
theorem zVu (h0 : S.er = 0) (hk : x.kind = 1) (h : (Tr.mk x ks).expS q E N S = some (r,S')) : r = zBC intT ∧ S' = S:=by
  rw [Tr.expS,if_neg (by omega),if_pos hk] at h
  injection h with h;injection h with h1 h2;exact ⟨h1.symm,h2.symm⟩
theorem zVt (h0 : S.er = 0) (hk : x.kind = 2) (h : (Tr.mk x ks).expS q E N S = some (r,S')) : r = zBC texT ∧ S' = S:=by
  rw [Tr.expS,if_neg (by omega),if_neg (by omega),if_pos hk] at h
  injection h with h;injection h with h1 h2;exact ⟨h1.symm,h2.symm⟩
theorem zVs (h0 : S.er = 0) (hk : x.kind = 3 ∨ x.kind = 4) (h : (Tr.mk x ks).expS q E N S = some (r,S')) : ∃ u S1,zEn E N (zB7 S) x.text = some (u,S1) ∧ zCy q S1 (varN S.nx) u = some S' ∧ r = varN S.nx:=by
  rw [Tr.expS,if_neg (by omega),if_neg (by omega),if_neg (by omega),if_pos hk] at h
  split at h
  · rename_i u S1 h1
    split at h
    · rename_i S2 h2
      injection h with h;injection h with e1 e2;subst e1;subst e2;exact ⟨u,S1,h1,h2,rfl⟩
    · cases h
  · cases h
theorem zLv (h0 : S.er = 0) (hk : 5 ≤ x.kind) (h : (Tr.mk x ks).expS q E N S = some (r,S')) : expK q E x ks.length ks N S = some (r,S'):=by
  rwa [Tr.expS,if_neg (by omega),if_neg (by omega),if_neg (by omega),if_neg (by omega)] at h
theorem zVr (h0 : S.er = 0) (hk : x.kind = 5) (h : (Tr.mk x (k :: ks)).expS q E N S = some (r,S')) : ∃ b,k.expS q E (N ++ [⟨x.text,varN S.nx,[]⟩]) (zB7 S) = some (b,S') ∧ r = zEX (varN S.nx) b:=by
  have h:=zLv h0 (by omega) h
  rw [expK,if_pos hk] at h
  split at h
  · rename_i b S1 h1;injection h with h;injection h with e1 e2;subst e1;subst e2;exact ⟨b,h1,rfl⟩
  · cases h
theorem zVp (h0 : S.er = 0) (hk : x.kind = 8) (h : (Tr.mk x (a :: b :: ks)).expS q E N S = some (r,S')) : ∃ t S1 S2 y S3,a.expS q E (N ++ [⟨x.text,varN S.nx,[]⟩]) (zB7 S) = some (t,S1) ∧ zCy q S1 (varN S.nx) t = some S2 ∧ anyS q N S2 x.text (varN S.nx) = some (y,S3) ∧ b.expS q E (N ++ [y]) S3 = some (r,S'):=by
  have h:=zLv h0 (by omega) h
  rw [expK,if_neg (by omega),if_pos hk] at h
  split at h
  · rename_i t S1 h1
    split at h
    · rename_i S2 h2
      split at h
      · rename_i y S3 h3
        rw [exp1] at h
        exact ⟨t,S1,S2,y,S3,h1,h2,h3,h⟩
      · cases h
    · cases h
  · cases h
theorem zUk (h0 : S.er = 0) (hk : x.kind = 7) (h : (Tr.mk x (a :: b :: ks)).expS q E N S = some (r,S')) : ∃ t S1,a.expS q E N S = some (t,S1) ∧
    ((a.val = true ∧ ∃ y S2,anyS q N S1 x.text t = some (y,S2) ∧ b.expS q E (N ++ [y]) S2 = some (r,S')) ∨ (a.val = false ∧ b.expS q E (N ++ [⟨x.text,t,[]⟩]) S1 = some (r,S'))):=by
  have h:=zLv h0 (by omega) h
  rw [expK,if_neg (by omega),if_neg (by omega)] at h
  split at h
  · rename_i t S1 h1
    rw [if_pos hk] at h
    refine ⟨t,S1,h1,?_⟩
    split at h
    · rename_i hv
      split at h
      · rename_i y S2 h2
        rw [exp1] at h
        exact .inl ⟨hv,y,S2,h2,h⟩
      · cases h
    · rename_i hv
      rw [exp1] at h
      exact .inr ⟨by simpa using hv,h⟩
  · cases h
theorem zVq (h0 : S.er = 0) (hk : x.kind = 6) (h : (Tr.mk x (a :: b :: ks)).expS q E N S = some (r,S')) : ∃ t S1 u S2,a.expS q E N S = some (t,S1) ∧ b.expS q E N S1 = some (u,S2) ∧ zCy q (zB7 S2) t (zEX u (varN S2.nx)) = some S' ∧ r = varN S2.nx:=by
  have h:=zLv h0 (by omega) h
  rw [expK,if_neg (by omega),if_neg (by omega)] at h
  split at h
  · rename_i t S1 h1
    rw [if_neg (by omega),if_pos hk,exp1] at h
    split at h
    · rename_i u S2 h2
      split at h
      · rename_i S3 h3;injection h with h;injection h with e1 e2;subst e1;subst e2;exact ⟨t,S1,u,S2,h1,h2,h3,rfl⟩
      · cases h
    · cases h
  · cases h
theorem zVo (h0 : S.er = 0) (hk : x.kind = 9) (h : (Tr.mk x (a :: b :: c :: ks)).expS q E N S = some (r,S')) : ∃ t S1 S2 S3 u S4,a.expS q E N S = some (t,S1) ∧ zCy q S1 t (zBC intT) = some S2 ∧ b.expS q E N S2 = some (r,S3) ∧ c.expS q E N S3 = some (u,S4) ∧ zCy q S4 r u = some S':=by
  have h:=zLv h0 (by omega) h
  rw [expK,if_neg (by omega),if_neg (by omega)] at h
  split at h
  · rename_i t S1 h1
    rw [if_neg (by omega),if_neg (by omega),if_pos hk] at h
    split at h
    · rename_i S2 h2
      rw [expI] at h
      split at h
      · rename_i w S3 h3
        rw [exp1] at h
        split at h
        · rename_i u S4 h4
          split at h
          · rename_i S5 h5;injection h with h;injection h with e1 e2;subst e1;subst e2;exact ⟨t,S1,S2,S3,u,S4,h1,h2,h3,h4,h5⟩
          · cases h
        · cases h
      · cases h
    · cases h
  · cases h
theorem zTq (h0 : S.er = 0) (hk : x.kind = 11) (h : (Tr.mk x (a :: ks)).expS q E N S = some (r,S')) : ∃ t S1 S2,a.expS q E N S = some (t,S1) ∧ zCy q S1 t (zBC intT) = some S2 ∧ r = varN S2.nx ∧ S' = zB7 S2:=by
  have h:=zLv h0 (by omega) h
  rw [expK,if_neg (by omega),if_neg (by omega)] at h
  split at h
  · rename_i t S1 h1
    rw [if_neg (by omega),if_neg (by omega),if_neg (by omega),if_pos hk] at h
    split at h
    · rename_i S2 h2;injection h with h;injection h with e1 e2;exact ⟨t,S1,S2,h1,h2,e1.symm,e2.symm⟩
    · cases h
  · cases h
theorem zTp (h0 : S.er = 0) (hk : x.kind = 12) (h : (Tr.mk x (a :: b :: ks)).expS q E N S = some (r,S')) : ∃ S1 u S2,a.expS q E N S = some (r,S1) ∧ b.expS q E (N ++ [⟨x.text,zBC intT,[]⟩]) S1 = some (u,S2) ∧ zCy q S2 r u = some S':=by
  have h:=zLv h0 (by omega) h
  rw [expK,if_neg (by omega),if_neg (by omega)] at h
  split at h
  · rename_i t S1 h1
    rw [if_neg (by omega),if_neg (by omega),if_neg (by omega),if_neg (by omega),if_pos hk,exp1] at h
    split at h
    · rename_i u S2 h2
      split at h
      · rename_i S3 h3;injection h with h;injection h with e1 e2;subst e1;subst e2;exact ⟨S1,u,S2,h1,h2,h3⟩
      · cases h
    · cases h
  · cases h
theorem zTr (h0 : S.er = 0) (hk : x.kind = 10) (h : (Tr.mk x (a :: ks)).expS q E N S = some (r,S')) : ∃ t S1,a.expS q E N S = some (t,S1) ∧ expM q E t (varN S1.nx) ks N (zB7 S1) = some S' ∧ r = varN S1.nx:=by
  have h:=zLv h0 (by omega) h
  rw [expK,if_neg (by omega),if_neg (by omega)] at h
  split at h
  · rename_i t S1 h1
    rw [if_neg (by omega),if_neg (by omega),if_neg (by omega),if_neg (by omega),if_neg (by omega)] at h
    split at h
    · rename_i S2 h2;injection h with h;injection h with e1 e2;subst e1;subst e2;exact ⟨t,S1,h1,h2,rfl⟩
    · cases h
  · cases h
theorem zVn {of' to' : List Nd} {p : Tr} (h : expM q E of' to' (p :: k :: ks) N S = some S') : ∃ t N1 S1 S2 u S3 S4,p.patS q E N S = some (t,N1,S1) ∧ zCy q S1 t of' = some S2 ∧ k.expS q E N1 S2 = some (u,S3) ∧ zCy q S3 u to' = some S4 ∧ expM q E of' to' ks N S4 = some S':=by
  rw [expM] at h
  split at h
  · rename_i t N1 S1 h1
    split at h
    · rename_i S2 h2
      rw [expN] at h
      split at h
      · rename_i u S3 h3
        split at h
        · rename_i S4 h4;exact ⟨t,N1,S1,S2,u,S3,S4,h1,h2,h3,h4,h⟩
        · cases h
      · cases h
    · cases h
  · cases h
end
theorem zJS {x : Nd} {ks : List Tr} (hw : (Tr.mk x ks).wf) (h : x.kids = 1) : ∃ a,ks = [a]:=by
  rw [Tr.wf] at hw
  match ks,hw with
  | [a],_=>exact ⟨a,rfl⟩
  | [],hw=>simp at hw;omega
  | _ :: _ :: _,hw=>simp at hw;omega
theorem zFM {x : Nd} {ks : List Tr} (hw : (Tr.mk x ks).wf) (h : x.kids = 2) : ∃ a b,ks = [a,b]:=by
  rw [Tr.wf] at hw
  match ks,hw with
  | [a,b],_=>exact ⟨a,b,rfl⟩
  | [],hw=>simp at hw;omega
  | [_],hw=>simp at hw;omega
  | _ :: _ :: _ :: _,hw=>simp at hw;omega
theorem zQR {x : Nd} {ks : List Tr} (hw : (Tr.mk x ks).wf) (h : x.kids = 3) : ∃ a b c,ks = [a,b,c]:=by
  rw [Tr.wf] at hw
  match ks,hw with
  | [a,b,c],_=>exact ⟨a,b,c,rfl⟩
  | [],hw=>simp at hw;omega
  | [_],hw=>simp at hw;omega
  | [_,_],hw=>simp at hw;omega
  | _ :: _ :: _ :: _ :: _,hw=>simp at hw;omega
theorem zC0 {x : Nd} {ks : List Tr} (hw : (Tr.mk x ks).werr false = 0) : (1 ≤ x.kind ∧ x.kind ≤ 12) ∧ cntK x.kind x.kids = true:=by
  have h1:=zCv (zDC hw).1
  have h3 : okK x.kind = true:=h1.1
  have h4 : ¬ (21 ≤ x.kind ∧ x.kind ≤ 24):=by simpa [patK] using h1.2.1
  have h5 : (1 ≤ x.kind ∧ x.kind ≤ 12) ∨ (21 ≤ x.kind ∧ x.kind ≤ 24):=by simpa [okK] using h3
  exact ⟨by omega,h1.2.2⟩
theorem zGC (a b : List Nd) : (zEX a b).length = a.length + b.length + 1:=by simp [zEX]
theorem zBi {q : Nat} {E : List Sg} (hT : ∀ s ∈ E,s.ty.length ≤ 10000) : ∀ (m : Nat) (t : Tr),t.sz ≤ m → t.wf → t.werr false = 0 → t.sz ≤ 4500 → ∀ {N : List Lc} {S S' : TS} {r : List Nd},LcsOk N → t.expS q E N S = some (r,S') → Up S S' (4002 * t.sz) ∧ r.length ≤ 2 * t.sz + 1
  | 0,t,h=>by have:=zBO t;omega
  | m + 1,.mk x ks,hm=>by
    intro hwf hw hb N S S' r hN h
    have hsz : (Tr.mk x ks).sz = szL ks + 1:=by rw [Tr.sz]
    by_cases h0 : S.er = 0
    case neg =>
      rw [zIr _ h0] at h
      injection h with h;injection h with e1 e2;subst e1;subst e2
      exact ⟨(Up.refl S).mono (by omega),by simp [zBC] <;> omega⟩
    obtain ⟨hkk,hcn⟩:=zC0 hw
    have hwk:=(zDC hw).2
    have hwf2:=zCK.1 (by rw [Tr.wf] at hwf;exact hwf.2)
    have hc : x.kind = 1 ∨ x.kind = 2 ∨ (x.kind = 3 ∨ x.kind = 4) ∨ x.kind = 5 ∨ x.kind = 6 ∨ x.kind = 7 ∨ x.kind = 8 ∨ x.kind = 9 ∨ x.kind = 10 ∨ x.kind = 11 ∨ x.kind = 12:=by omega
    rcases hc with hk | hk | hk | hk | hk | hk | hk | hk | hk | hk | hk
    · obtain ⟨rfl,rfl⟩:=zVu h0 hk h
      exact ⟨(Up.refl _).mono (by omega),by simp [zBC] <;> omega⟩
    · obtain ⟨rfl,rfl⟩:=zVt h0 hk h
      exact ⟨(Up.refl _).mono (by omega),by simp [zBC] <;> omega⟩
    · obtain ⟨u,S1,h1,h2,rfl⟩:=zVs h0 hk h
      exact ⟨(((zCY S).trans (zLQ hT hN h1).1).trans (zCB h2)).mono (by omega),by simp [varN] <;> omega⟩
    all_goals rw [hk] at hcn
    · obtain ⟨k,rfl⟩:=zJS hwf (by simpa [cntK] using hcn)
      rw [szL,szL] at hsz
      obtain ⟨b,h1,rfl⟩:=zVr h0 hk h
      have w1:=zBB (j:=0) hwk rfl
      obtain ⟨b1,b2⟩:=zBi hT m k (by omega) (hwf2 k (by simp)) (by simpa [hk] using w1) (by omega) (hN.app ⟨by simp [varN],by simp⟩) h1
      exact ⟨((zCY S).trans b1).mono (by omega),by rw [zGC];simp [varN];omega⟩
    · obtain ⟨a,b,rfl⟩:=zFM hwf (by simpa [cntK] using hcn)
      rw [szL,szL,szL] at hsz
      obtain ⟨t,S1,u,S2,h1,h2,h3,rfl⟩:=zVq h0 hk h
      have w1:=zBB (j:=0) hwk rfl
      have w2:=zBB (j:=1) hwk rfl
      obtain ⟨b1,b2⟩:=zBi hT m a (by omega) (hwf2 a (by simp)) (by simpa [hk] using w1) (by omega) hN h1
      obtain ⟨c1,c2⟩:=zBi hT m b (by omega) (hwf2 b (by simp)) (by simpa [hk] using w2) (by omega) hN h2
      exact ⟨(((b1.trans c1).trans (zCY S2)).trans (zCB h3)).mono (by omega),by simp [varN] <;> omega⟩
    · obtain ⟨a,b,rfl⟩:=zFM hwf (by simpa [cntK] using hcn)
      rw [szL,szL,szL] at hsz
      have w1:=zBB (j:=0) hwk rfl
      have w2:=zBB (j:=1) hwk rfl
      obtain ⟨t,S1,h1,h2⟩:=zUk h0 hk h
      obtain ⟨b1,b2⟩:=zBi hT m a (by omega) (hwf2 a (by simp)) (by simpa [hk] using w1) (by omega) hN h1
      rcases h2 with ⟨_,y,S2,h3,h4⟩ | ⟨_,h4⟩
      · obtain ⟨d1,d2⟩:=zKl (by omega) h3
        obtain ⟨c1,c2⟩:=zBi hT m b (by omega) (hwf2 b (by simp)) (by simpa [hk] using w2) (by omega) (hN.app d2) h4
        exact ⟨((b1.trans d1).trans c1).mono (by omega),by omega⟩
      · obtain ⟨c1,c2⟩:=zBi hT m b (by omega) (hwf2 b (by simp)) (by simpa [hk] using w2) (by omega) (hN.app ⟨by show t.length ≤ _;omega,by simp⟩) h4
        exact ⟨(b1.trans c1).mono (by omega),by omega⟩
    · obtain ⟨a,b,rfl⟩:=zFM hwf (by simpa [cntK] using hcn)
      rw [szL,szL,szL] at hsz
      have w1:=zBB (j:=0) hwk rfl
      have w2:=zBB (j:=1) hwk rfl
      obtain ⟨t,S1,S2,y,S3,h1,h2,h3,h4⟩:=zVp h0 hk h
      obtain ⟨b1,b2⟩:=zBi hT m a (by omega) (hwf2 a (by simp)) (by simpa [hk] using w1) (by omega) (hN.app ⟨by simp [varN],by simp⟩) h1
      obtain ⟨d1,d2⟩:=zKl (by simp [varN]) h3
      obtain ⟨c1,c2⟩:=zBi hT m b (by omega) (hwf2 b (by simp)) (by simpa [hk] using w2) (by omega) (hN.app d2) h4
      exact ⟨(((((zCY S).trans b1).trans (zCB h2)).trans d1).trans c1).mono (by omega),by omega⟩
    · obtain ⟨a,b,c,rfl⟩:=zQR hwf (by simpa [cntK] using hcn)
      rw [szL,szL,szL,szL] at hsz
      have w1:=zBB (j:=0) hwk rfl
      have w2:=zBB (j:=1) hwk rfl
      have w3:=zBB (j:=2) hwk rfl
      obtain ⟨t,S1,S2,S3,u,S4,h1,h2,h3,h4,h5⟩:=zVo h0 hk h
      obtain ⟨b1,b2⟩:=zBi hT m a (by omega) (hwf2 a (by simp)) (by simpa [hk] using w1) (by omega) hN h1
      obtain ⟨c1,c2⟩:=zBi hT m b (by omega) (hwf2 b (by simp)) (by simpa [hk] using w2) (by omega) hN h3
      obtain ⟨d1,d2⟩:=zBi hT m c (by omega) (hwf2 c (by simp)) (by simpa [hk] using w3) (by omega) hN h4
      exact ⟨((((b1.trans (zCB h2)).trans c1).trans d1).trans (zCB h5)).mono (by omega),by omega⟩
    · have hcn2 : 3 ≤ x.kids ∧ x.kids % 2 = 1:=by simpa [cntK] using hcn
      obtain ⟨a,ks,rfl⟩ : ∃ a r,ks = a :: r:=by
        cases ks with
        | nil=>rw [Tr.wf] at hwf;simp at hwf;omega
        | cons a r=>exact ⟨a,r,rfl⟩
      rw [szL] at hsz
      have w1:=zBB (j:=0) hwk rfl
      obtain ⟨t,S1,h1,h2,rfl⟩:=zTr h0 hk h
      obtain ⟨b1,b2⟩:=zBi hT m a (by omega) (hwf2 a (by simp)) (by simpa [hk] using w1) (by omega) hN h1
      have key : ∀ (l : Nat) (ks : List Tr) (i : Nat),ks.length ≤ l → i % 2 = 1 → szL ks ≤ m → szL ks ≤ 4500 → (∀ k ∈ ks,k.wf) → zC6 (decide (x.kind = 10)) false ks i = 0 → ∀ {of' to' : List Nd} {S S' : TS},expM q E of' to' ks N S = some S' → Up S S' (4002 * szL ks):=by
        intro l
        induction l with
        | zero =>
          intro ks i hl _ _ _ _ _ of' to' S S' h
          have : ks = []:=List.eq_nil_of_length_eq_zero (by omega)
          subst this
          rw [expM.eq_1] at h
          injection h with h;subst h;exact (Up.refl _).mono (by omega)
        | succ l ihl =>
          intro ks i hl hi hs hs2 hwf hw of' to' S S' h
          match ks,hl,hs,hs2,hwf,hw,h with
          | [],_,_,_,_,_,h =>
            rw [expM.eq_1] at h
            injection h with h;subst h;exact (Up.refl _).mono (by omega)
          | [p],_,_,_,_,_,h =>
            rw [expM] at h
            split at h
            · split at h
              · rw [expN.eq_1] at h;cases h
              · cases h
            · cases h
          | p :: k :: ks,hl,hs,hs2,hwf,hw,h =>
            obtain ⟨t,N1,S1,S2,u,S3,S4,g1,g2,g3,g4,g5⟩:=zVn h
            rw [szL,szL] at hs hs2
            have v1:=zBB (j:=0) hw rfl
            have v2:=zBB (j:=1) hw rfl
            have v3 : zC6 (decide (x.kind = 10)) false ks (i + 1 + 1) = 0:=by
              rw [zC6] at hw
              split at hw
              · contradiction
              rw [zC6] at hw
              split at hw
              · contradiction
              exact hw
            have e1 : (false || (decide (x.kind = 10) && decide ((i + 0) % 2 = 1))) = true:=by simp [hk];omega
            have e2 : (false || (decide (x.kind = 10) && decide ((i + 1) % 2 = 1))) = false:=by simp [hk];omega
            rw [e1] at v1
            rw [e2] at v2
            have hpp:=zBO p
            have hkp:=zBO k
            obtain ⟨a1,_,a3,_⟩:=zKA hT p.sz p (Nat.le_refl _) v1 hN g1
            obtain ⟨c1,_⟩:=zBi hT m k (by omega) (hwf k (by simp)) v2 (by omega) a3 g3
            have d1:=ihl ks (i + 1 + 1) (by simp at hl;omega) (by omega) (by omega) (by omega) (fun z hz=>hwf z (by simp [hz])) v3 g5
            exact ((((a1.trans (zCB g2)).trans c1).trans (zCB g4)).trans d1).mono (by rw [szL,szL,Nat.mul_add,Nat.mul_add];omega)
      have hwk2 : zC6 (decide (x.kind = 10)) false ks 1 = 0:=by
        rw [zC6] at hwk
        split at hwk
        · contradiction
        exact hwk
      have d1:=key _ ks 1 (Nat.le_refl _) rfl (by omega) (by omega) (fun k hk=>hwf2 k (by simp [hk])) hwk2 h2
      exact ⟨((b1.trans (zCY S1)).trans d1).mono (by omega),by simp [varN] <;> omega⟩
    · obtain ⟨a,rfl⟩:=zJS hwf (by simpa [cntK] using hcn)
      rw [szL,szL] at hsz
      have w1:=zBB (j:=0) hwk rfl
      obtain ⟨t,S1,S2,h1,h2,rfl,rfl⟩:=zTq h0 hk h
      obtain ⟨b1,b2⟩:=zBi hT m a (by omega) (hwf2 a (by simp)) (by simpa [hk] using w1) (by omega) hN h1
      exact ⟨((b1.trans (zCB h2)).trans (zCY S2)).mono (by omega),by simp [varN] <;> omega⟩
    · obtain ⟨a,b,rfl⟩:=zFM hwf (by simpa [cntK] using hcn)
      rw [szL,szL,szL] at hsz
      have w1:=zBB (j:=0) hwk rfl
      have w2:=zBB (j:=1) hwk rfl
      obtain ⟨S1,u,S2,h1,h2,h3⟩:=zTp h0 hk h
      obtain ⟨b1,b2⟩:=zBi hT m a (by omega) (hwf2 a (by simp)) (by simpa [hk] using w1) (by omega) hN h1
      obtain ⟨c1,c2⟩:=zBi hT m b (by omega) (hwf2 b (by simp)) (by simpa [hk] using w2) (by omega) (hN.app ⟨by simp [zBC],by simp⟩) h2
      exact ⟨((b1.trans c1).trans (zCB h3)).mono (by omega),by omega⟩
end Go.Proofs.YtblomnkamngnbaaGreatDoor
namespace Go.Proofs.YtblomnkamngnbaaGreatDoor
theorem zNd (f : Int → Int) (n : Nd) : (ren f n).kids = n.kids:=by unfold ren;split <;> rfl
theorem zSM (f : Int → Int) (n : Nd) : (ren f n).text = n.text:=by unfold ren;split <;> rfl
theorem zEJ {f : Int → Int} {n : Nd} (h : n.kind ≠ 31) : ren f n = n:=by rw [ren,if_neg h]
theorem zEc {f : Int → Int} {n : Nd} (h : n.kind = 31) : (ren f n).num = f n.num:=by rw [ren,if_pos h]
theorem zP5 (f : Int → Int) (x : Int) : ren f (vN x) = vN (f x):=by rw [ren,if_pos (show (vN x).kind = 31 from rfl)];rfl
theorem zLy (f : Int → Int) (m : Nat) : ∀ (L : List Nd) (o a : Int),zDn m (L.map (ren f)) o a = zDn m L o a
  | [],_,_=>rfl
  | x :: r,o,a=>by
    rw [List.map_cons,zDn,zDn,zNd,zLy f m r]
theorem zH3 (f : Int → Int) (L : List Nd) (a : Int) : endF (L.map (ren f)) a = endF L a:=by
  unfold endF;rw [List.length_map, ← List.map_drop,zLy]
theorem zNZ (f : Int → Int) (L : List Nd) (a : Int) : ∀ i,seqE (L.map (ren f)) a i = seqE L a i
  | 0=>rfl
  | i + 1=>by rw [seqE,seqE,zNZ f L a i,zH3]
theorem zQS (f : Int → Int) (L : List Nd) (a : Int) : zKG (L.map (ren f)) a = zKG L a:=by
  unfold zKG
  rw [List.getElem?_map]
  cases L[a.toNat]? with
  | none=>rfl
  | some x=>simp only [Option.map_some,zNd]
theorem zIa (f : Int → Int) (L : List Nd) (a : Int) : zBn (L.map (ren f)) a = zBn L a:=by
  unfold zBn;rw [zH3,zQS]
  split
  · rfl
  · exact List.map_congr_left fun i _=>zNZ f L (a + 1) i
theorem zOB (f : Int → Int) (L : List Nd) (a b : Int) : cutO (L.map (ren f)) a b = (cutO L a b).map (List.map (ren f)):=by
  unfold cutO;rw [List.length_map]
  split
  · rw [Option.map_some,List.map_drop,List.map_take]
  · rfl
theorem zMe {f : Int → Int} {L : List Nd} (h : Lf L) : L.map (ren f) = sub (fun x=>[vN (f x)]) L:=by
  induction L with
  | nil=>rfl
  | cons n r ih =>
    rw [List.map_cons,zCA, ← ih fun m hm=>h m (List.mem_cons_of_mem _ hm)]
    unfold sub1
    split
    · rename_i hk
      have e:=(h n List.mem_cons_self hk).1
      rw [show ren f n = vN (f n.num) by rw [e];exact zP5 f _];rfl
    · rename_i hk;rw [zEJ hk];rfl
theorem Ty.ren {f : Int → Int} {L : List Nd} (h : Ty L) (hr : ∀ x,Vin x L → Rng (f x)) : Ty (L.map (ren f)):=by
  rw [zMe h.lf];exact h.sub fun x hx=>zI8 (hr x hx)
theorem zM9 {f : Int → Int} {L : List Nd} {y : Int} : Vin y (L.map (ren f)) ↔ ∃ x,Vin x L ∧ f x = y:=by
  induction L with
  | nil=>simp [zEe]
  | cons n r ih =>
    rw [List.map_cons,zBL,ih,zDf]
    constructor
    · rintro (⟨h1,h2⟩ | ⟨x,h1,h2⟩)
      · exact ⟨n.num,zBL.2 (.inl ⟨h1,rfl⟩),by rw [← h2,zEc h1]⟩
      · exact ⟨x,zBL.2 (.inr h1),h2⟩
    · rintro ⟨x,h1,h2⟩
      rcases zBL.1 h1 with ⟨h3,h4⟩ | h1
      · exact .inl ⟨h3,by rw [zEc h3,h4,h2]⟩
      · exact .inr ⟨x,h1,h2⟩
theorem zHN (f g : Int → Int) (L : List Nd) : (L.map (ren f)).map (ren g) = L.map (ren fun x=>g (f x)):=by
  rw [List.map_map]
  refine List.map_congr_left fun n _=>?_
  show Go.Proofs.YtblomnkamngnbaaGreatDoor.ren g (Go.Proofs.YtblomnkamngnbaaGreatDoor.ren f n) = _
  by_cases h : n.kind = 31
  · rw [Go.Proofs.YtblomnkamngnbaaGreatDoor.ren,if_pos (by rw [zDf];exact h),zEc h]
    simp only [Go.Proofs.YtblomnkamngnbaaGreatDoor.ren,if_pos h]
  · rw [zEJ h,zEJ h,zEJ h]
theorem zFW {f g : Int → Int} {L : List Nd} (h : ∀ x,Vin x L → f x = g x) : L.map (ren f) = L.map (ren g):=by
  refine List.map_congr_left fun n hn=>?_
  by_cases hk : n.kind = 31
  · simp only [Go.Proofs.YtblomnkamngnbaaGreatDoor.ren,if_pos hk];rw [h n.num ⟨n,hn,hk,rfl⟩]
  · rw [zEJ hk,zEJ hk]
theorem zK0 {f : Int → Int} {L : List Nd} (hi : ∀ x y,Vin x L → Vin y L → f x = f y → x = y) : zBu (L.map (ren f)) = (zBu L).map f :=
  zKZ L [] fun x y hx hy e=>hi x y (by simpa using hx) (by simpa using hy) e
def sh (k : Int) (L : List Nd) : List Nd:=L.map (ren (· + k))
theorem zPo (k : Int) (L : List Nd) : (sh k L).length = L.length:=List.length_map ..
theorem zUJ (L : List Nd) : sh 0 L = L:=by
  unfold sh
  conv=>rhs;rw [← List.map_id L]
  refine List.map_congr_left fun n _=>?_
  unfold ren;split
  · simp
  · rfl
theorem zTZ (k : Int) (a b : List Nd) : sh k (a ++ b) = sh k a ++ sh k b:=List.map_append ..
theorem zMa (k : Int) (x : Nd) (r : List Nd) : sh k (x :: r) = ren (· + k) x :: sh k r:=rfl
theorem zE4 (k : Int) (s : List UInt8) : sh k (zBC s) = zBC s:=by
  rw [zBC,zMa,zEJ (show (32 : Int) ≠ 31 by decide)];rfl
theorem zHK (k x : Int) : sh k (varN x) = varN (x + k):=by
  show [ren (· + k) (vN x)] = _;rw [zP5];rfl
theorem zNY (k : Int) (a b : List Nd) : sh k (zEX a b) = zEX (sh k a) (sh k b):=by
  rw [zEX,zMa,zTZ,zEJ (show (32 : Int) ≠ 31 by decide)];rfl
def SSim (k : Int) (A B : Sto) : Prop:=∀ j,0 ≤ j → zAv A (j + k) = (zAv B j).map (sh k)
def Nn (t : List Nd) : Prop:=∀ x,Vin x t → 0 ≤ x
def SNn (B : Sto) : Prop:=∀ j t,zAv B j = some t → Nn t
theorem Nn.sub {t u : List Nd} (h : Nn t) (hs : ∀ n ∈ u,n ∈ t) : Nn u:=fun x ⟨n,hn,hk,e⟩=>h x ⟨n,hs n hn,hk,e⟩
section
variable {k : Int} {A B : Sto}
theorem zMZ (t : List Nd) : (sh k t)[0]? = t[0]?.map (ren (· + k)):=by rw [sh,List.getElem?_map]
theorem zKK (hs : SSim k A B) (hB : SNn B) : ∀ (n : Nat) (t u : List Nd),Nn t → zD2 n B t = some u → zD2 n A (sh k t) = some (sh k u) ∧ Nn u
  | 0,_,_,_,h=>by cases h
  | n + 1,t,u,ht,h=>by
    unfold zD2 at h ⊢
    rw [zMZ]
    cases hx : t[0]? with
    | none=>rw [hx] at h;cases h
    | some x =>
      rw [hx] at h
      simp only [Option.map_some,zDf] at h ⊢
      by_cases hk : x.kind = 31
      · rw [if_pos hk] at h ⊢
        have h0 : 0 ≤ x.num:=ht _ ⟨x,List.mem_of_getElem? hx,hk,rfl⟩
        rw [zEc hk,hs _ h0]
        cases hl : zAv B x.num with
        | none=>rw [hl] at h;injection h with h;subst h;exact ⟨rfl,ht⟩
        | some v=>rw [hl] at h;exact zKK hs hB n v u (hB _ _ hl) h
      · rw [if_neg hk] at h ⊢;injection h with h;subst h;exact ⟨rfl,ht⟩
theorem zRE {f g : Nd → Option (List Nd)} : ∀ {t u : List Nd},(∀ x ∈ t,∀ v,f x = some v → g (ren (· + k) x) = some (sh k v)) → catO f t = some u → catO g (sh k t) = some (sh k u)
  | [],u,_,h=>by injection h with h;subst h;rfl
  | x :: r,u,hx,h=>by
    rw [catO] at h
    rw [zMa,catO]
    cases h1 : f x with
    | none=>rw [h1] at h;cases h
    | some a =>
      cases h2 : catO f r with
      | none=>rw [h1,h2] at h;cases h
      | some b =>
        rw [h1,h2] at h;injection h with h;subst h
        rw [hx x List.mem_cons_self a h1,zRE (fun y hy=>hx y (List.mem_cons_of_mem _ hy)) h2]
        simp only [zTZ]
theorem zP2 (hs : SSim k A B) (hB : SNn B) : ∀ (n : Nat) (t u : List Nd),Nn t → resF n B t = some u → resF n A (sh k t) = some (sh k u)
  | 0,_,_,_,h=>by cases h
  | n + 1,t,u,ht,h=>by
    unfold resF at h ⊢
    refine zRE (fun x hx v hv=>?_) h
    rw [zDf]
    by_cases hk : x.kind = 31
    · rw [if_pos hk] at hv ⊢
      have h0 : 0 ≤ x.num:=ht _ ⟨x,hx,hk,rfl⟩
      rw [zEc hk,hs _ h0]
      cases hl : zAv B x.num with
      | none=>rw [hl] at hv;injection hv with hv;subst hv;rfl
      | some w=>rw [hl] at hv;exact zP2 hs hB n w v (hB _ _ hl) hv
    · rw [if_neg hk] at hv ⊢;injection hv with hv;subst hv;rfl
theorem zH1 {α β γ δ : Type} {R : β → γ → Prop} {f : β → α → Option β} {g : γ → δ → Option γ} {e : α → δ} : ∀ {l : List α} {b b' : β} {c : γ},(∀ x ∈ l,∀ b c b',R b c → f b x = some b' → ∃ c',g c (e x) = some c' ∧ R b' c') → R b c → zBc f b l = some b' → ∃ c',zBc g c (l.map e) = some c' ∧ R b' c'
  | [],b,b',c,_,hR,h=>by injection h with h;subst h;exact ⟨c,rfl,hR⟩
  | x :: r,b,b',c,hx,hR,h=>by
    rw [zBc] at h
    cases h1 : f b x with
    | none=>rw [h1] at h;cases h
    | some b1 =>
      rw [h1] at h
      obtain ⟨c1,h2,h3⟩:=hx x List.mem_cons_self b c b1 hR h1
      rw [List.map_cons,zBc,h2]
      exact zH1 (fun y hy=>hx y (List.mem_cons_of_mem _ hy)) h3 h
def ESim (k : Int) (S T : Seen) : Prop:=∀ j,0 ≤ j → zAv T (j + k) = zAv S j
theorem ESim.put {S T : Seen} (h : ESim k S T) (x v : Int) : ESim k (putA S x v) (putA T (x + k) v):=fun j hj=>by
  rw [zBo,zBo,h j hj]
  by_cases e : x = j
  · subst e;rw [if_pos rfl,if_pos rfl]
  · rw [if_neg e,if_neg (by omega)]
theorem zNW (hs : SSim k A B) (hB : SNn B) : ∀ (n : Nat) (t : List Nd) (S T : Seen) (r : Int × Seen),Nn t → ESim k S T → zGE n B t S = some r → ∃ T',zGE n A (sh k t) T = some (r.1,T') ∧ ESim k r.2 T'
  | 0,_,_,_,_,_,_,h=>by cases h
  | n + 1,t,S,T,r,ht,hE,h=>by
    rw [zEA] at h ⊢
    have hst : ∀ x ∈ t,∀ (p q p' : Int × Seen),(p.1 = q.1 ∧ ESim k p.2 q.2) → szS n B p x = some p' → ∃ c',szS n A q (ren (· + k) x) = some c' ∧ (p'.1 = c'.1 ∧ ESim k p'.2 c'.2):=by
      intro x hx p q p' hR hp
      obtain ⟨p1,p2⟩:=p
      obtain ⟨q1,q2⟩:=q
      obtain ⟨rfl,hR⟩:=hR
      simp only at hR
      unfold szS at hp ⊢
      rw [zDf]
      by_cases hk : x.kind = 31
      · rw [if_pos hk] at hp ⊢
        have h0 : 0 ≤ x.num:=ht _ ⟨x,hx,hk,rfl⟩
        rw [zEc hk,hs _ h0,hR _ h0]
        cases hl : zAv B x.num with
        | none=>rw [hl] at hp;injection hp with hp;subst hp;exact ⟨_,rfl,rfl,hR⟩
        | some u =>
          rw [hl] at hp
          simp only [Option.map_some] at hp ⊢
          by_cases hz : (zAv p2 x.num).getD 0 > 0
          · rw [if_pos hz] at hp ⊢;injection hp with hp;subst hp;exact ⟨_,rfl,rfl,hR⟩
          · rw [if_neg hz] at hp ⊢
            cases hm : zGE n B u p2 with
            | none=>rw [hm] at hp;cases hp
            | some r =>
              obtain ⟨T',g1,g2⟩:=zNW hs hB n u p2 q2 r (hB _ _ hl) hR hm
              rw [hm] at hp
              injection hp with hp;subst hp
              exact ⟨(min (p1 + r.1) 4001,putA T' (x.num + k) r.1),by rw [g1],rfl,g2.put _ _⟩
      · rw [if_neg hk] at hp ⊢;injection hp with hp;subst hp;exact ⟨_,rfl,rfl,hR⟩
    obtain ⟨c,h1,h2,h3⟩:=zH1 (R:=fun (p q : Int × Seen)=>p.1 = q.1 ∧ ESim k p.2 q.2) (e:=ren (· + k)) (b:=(0,S)) (c:=(0,T)) hst ⟨rfl,hE⟩ h
    obtain ⟨c1,c2⟩:=c
    simp only at h2 h3
    exact ⟨c2,by rw [h2];exact h1,h3⟩
theorem zTi (hs : SSim k A B) (hB : SNn B) (v : Int) : ∀ (n : Nat) (t : List Nd) (S T : Seen) (r : Bool × Seen),Nn t → ESim k S T → inF n B v t S = some r → ∃ T',inF n A (v + k) (sh k t) T = some (r.1,T') ∧ ESim k r.2 T'
  | 0,_,_,_,_,_,_,h=>by cases h
  | n + 1,t,S,T,r,ht,hE,h=>by
    rw [zF3] at h ⊢
    have hst : ∀ x ∈ t,∀ (p q p' : Bool × Seen),(p.1 = q.1 ∧ ESim k p.2 q.2) → inS n B v p x = some p' → ∃ c',inS n A (v + k) q (ren (· + k) x) = some c' ∧ (p'.1 = c'.1 ∧ ESim k p'.2 c'.2):=by
      intro x hx p q p' hR hp
      obtain ⟨p1,p2⟩:=p
      obtain ⟨q1,q2⟩:=q
      obtain ⟨rfl,hR⟩:=hR
      simp only at hR
      unfold inS at hp ⊢
      rw [zDf]
      simp only at hp ⊢
      by_cases h9 : p1 = true
      · rw [if_pos h9] at hp ⊢;injection hp with hp;subst hp;exact ⟨_,rfl,rfl,hR⟩
      · rw [if_neg h9] at hp ⊢
        by_cases hk : x.kind = 31
        · have h0 : 0 ≤ x.num:=ht _ ⟨x,hx,hk,rfl⟩
          rw [zEc hk,hR _ h0,hs _ h0]
          by_cases hz : (x.kind ≠ 31 ∨ (zAv p2 x.num).getD 0 > 0)
          · rw [if_pos hz] at hp ⊢;injection hp with hp;subst hp;exact ⟨_,rfl,rfl,hR⟩
          · rw [if_neg hz] at hp ⊢
            by_cases hv : x.num = v
            · rw [if_pos hv] at hp
              rw [if_pos (by omega)];injection hp with hp;subst hp;exact ⟨_,rfl,rfl,hR.put _ _⟩
            · rw [if_neg hv] at hp
              rw [if_neg (by omega)]
              obtain ⟨p1',p2'⟩:=p'
              have hnn : Nn ((zAv B x.num).getD []):=by
                cases hl : zAv B x.num with
                | none=>exact fun _ hx=>absurd hx zEe
                | some u=>exact hB _ _ hl
              obtain ⟨T',g1,g2⟩:=zTi hs hB v n _ _ _ _ hnn (hR.put x.num _) hp
              refine ⟨(p1',T'),?_,rfl,g2⟩
              rw [← g1]
              cases zAv B x.num <;> rfl
        · rw [if_pos (.inl hk)] at hp ⊢;injection hp with hp;subst hp;exact ⟨_,rfl,rfl,hR⟩
    obtain ⟨c,h1,h2,h3⟩:=zH1 (R:=fun (p q : Bool × Seen)=>p.1 = q.1 ∧ ESim k p.2 q.2) (e:=ren (· + k)) (b:=(false,S)) (c:=(false,T)) hst ⟨rfl,hE⟩ h
    obtain ⟨c1,c2⟩:=c
    simp only at h2 h3
    exact ⟨c2,by rw [h2];exact h1,h3⟩
theorem SSim.put (hs : SSim k A B) (x : Int) (t : List Nd) : SSim k (putA A (x + k) (sh k t)) (putA B x t):=fun j hj=>by
  rw [zBo,zBo,hs j hj]
  by_cases e : x = j
  · subst e;rw [if_pos rfl,if_pos rfl];rfl
  · rw [if_neg e,if_neg (by omega)]
theorem SNn.put (hB : SNn B) {x : Int} {t : List Nd} (ht : Nn t) : SNn (putA B x t):=fun j u hu=>by
  rw [zBo] at hu
  split at hu
  · injection hu with hu;subst hu;exact ht
  · exact hB j u hu
theorem zQ9 {t u : List Nd} {a b : Int} (h : cutO t a b = some u) : ∀ n ∈ u,n ∈ t:=by
  unfold cutO at h
  split at h
  · injection h with h;subst h;exact fun n hn=>List.mem_of_mem_take (List.mem_of_mem_drop hn)
  · cases h
end
theorem zJ1 {k : Int} : ∀ (n : Nat) {A B : Sto} (a b : List Nd) (r : Int × Sto),SSim k A B → SNn B → Nn a → Nn b → zEk n B a b = some r → ∃ A',zEk n A (sh k a) (sh k b) = some (r.1,A') ∧ SSim k A' r.2 ∧ SNn r.2
  | 0,_,_,_,_,_,_,_,_,_,h=>by cases h
  | n + 1,A,B,a0,b0,r,hs,hB,ha,hb,h=>by
    rw [zFw] at h ⊢
    cases h1 : zD2 n B a0 with
    | none=>rw [h1] at h;cases h
    | some a =>
    cases h2 : zD2 n B b0 with
    | none=>rw [h1,h2] at h;cases h
    | some b =>
    rw [h1,h2] at h
    obtain ⟨g1,na⟩:=zKK hs hB n a0 a ha h1
    obtain ⟨g2,nb⟩:=zKK hs hB n b0 b hb h2
    rw [g1,g2]
    dsimp only at h ⊢
    rw [zMZ,zMZ]
    cases hx : a[0]? with
    | none=>rw [hx] at h;cases h
    | some x =>
    cases hy : b[0]? with
    | none=>rw [hx,hy] at h;cases h
    | some y =>
    rw [hx,hy] at h
    simp only [Option.map_some,zDf,zPo] at h ⊢
    split at h
    · cases h
    rename_i hlen
    rw [if_neg hlen]
    split at h
    · rename_i hk
      have h0 : 0 ≤ x.num:=na _ ⟨x,List.mem_of_getElem? hx,hk.1,rfl⟩
      have h0' : 0 ≤ y.num:=nb _ ⟨y,List.mem_of_getElem? hy,hk.2,rfl⟩
      rw [if_pos hk,zEc hk.1,zEc hk.2]
      split at h
      · rename_i hne
        injection h with h;subst h
        rw [if_pos (by omega)]
        refine ⟨_,rfl,?_,hB.put fun z hz=>?_⟩
        · have:=hs.put (max x.num y.num) (varN (min x.num y.num))
          rw [zHK] at this
          rw [show max (x.num + k) (y.num + k) = max x.num y.num + k by omega,show min (x.num + k) (y.num + k) = min x.num y.num + k by omega];exact this
        · have hz : z = min x.num y.num:=zC5.1 hz
          omega
      · rename_i hne
        injection h with h;subst h
        rw [if_neg (by omega)];exact ⟨_,rfl,hs,hB⟩
    · rename_i hk
      rw [if_neg hk]
      split at h
      · rename_i hky
        rw [if_pos hky]
        exact zJ1 n b a r hs hB nb na h
      · rename_i hky
        rw [if_neg hky]
        split at h
        · rename_i hkx
          have h0 : 0 ≤ x.num:=na _ ⟨x,List.mem_of_getElem? hx,hkx,rfl⟩
          rw [if_pos hkx,zEc hkx]
          cases hi : inF n B x.num b [] with
          | none=>rw [hi] at h;cases h
          | some q =>
            obtain ⟨q1,q2⟩:=q
            obtain ⟨T',g3,_⟩:=zTi hs hB x.num n b [] [] _ nb (fun _ _=>rfl) hi
            rw [g3]
            rw [hi] at h
            cases q1 with
            | true=>injection h with h;subst h;exact ⟨_,rfl,hs,hB⟩
            | false=>injection h with h;subst h;exact ⟨_,rfl,hs.put _ _,hB.put nb⟩
        · rename_i hkx
          rw [if_neg hkx,zEJ hkx,zEJ hky]
          split at h
          · rename_i hne
            rw [if_pos hne];injection h with h;subst h;exact ⟨_,rfl,hs,hB⟩
          · rename_i hne
            rw [if_neg hne]
            have hk1 : zBn (sh k a) 0 = zBn a 0:=zIa _ a 0
            have hk2 : zBn (sh k b) 0 = zBn b 0:=zIa _ b 0
            rw [hk1]
            have hst : ∀ i ∈ List.range (zBn a 0).length,∀ (p q p' : Int × Sto),(p.1 = q.1 ∧ SSim k q.2 p.2 ∧ SNn p.2) → kidS n a b p i = some p' → ∃ c',kidS n (sh k a) (sh k b) q (id i) = some c' ∧ (p'.1 = c'.1 ∧ SSim k c'.2 p'.2 ∧ SNn p'.2):=by
              intro i _ p q p' hR hp
              obtain ⟨p1,p2⟩:=p
              obtain ⟨q1,q2⟩:=q
              obtain ⟨rfl,hR1,hR2⟩:=hR
              simp only at hR1 hR2
              unfold kidS at hp ⊢
              simp only [id_eq] at hp ⊢
              by_cases he : p1 ≠ 0
              · rw [if_pos he] at hp ⊢;injection hp with hp;subst hp;exact ⟨_,rfl,rfl,hR1,hR2⟩
              · rw [if_neg he] at hp ⊢
                rw [hk1,hk2]
                cases hka : (zBn a 0)[i]? with
                | none=>rw [hka] at hp;cases hp
                | some ka =>
                cases hkb : (zBn b 0)[i]? with
                | none=>rw [hka,hkb] at hp;cases hp
                | some kb =>
                rw [hka,hkb] at hp
                dsimp only at hp ⊢
                have e1 : cutO (sh k a) ka (endF (sh k a) ka) = (cutO a ka (endF a ka)).map (sh k):=by
                  unfold sh;rw [zH3,zOB]
                have e2 : cutO (sh k b) kb (endF (sh k b) kb) = (cutO b kb (endF b kb)).map (sh k):=by
                  unfold sh;rw [zH3,zOB]
                rw [e1,e2]
                cases hca : cutO a ka (endF a ka) with
                | none=>rw [hca] at hp;cases hp
                | some ca =>
                cases hcb : cutO b kb (endF b kb) with
                | none=>rw [hca,hcb] at hp;cases hp
                | some cb =>
                rw [hca,hcb] at hp
                simp only [Option.map_some] at hp ⊢
                obtain ⟨A',g3,g4,g5⟩:=zJ1 n ca cb p' hR1 hR2 (na.sub (zQ9 hca)) (nb.sub (zQ9 hcb)) hp
                exact ⟨_,g3,rfl,g4,g5⟩
            obtain ⟨c,h3,h4⟩:=zH1 (R:=fun (p q : Int × Sto)=>p.1 = q.1 ∧ SSim k q.2 p.2 ∧ SNn p.2) (e:=id) (b:=(0,B)) (c:=(0,A)) hst ⟨rfl,hs,hB⟩ h
            obtain ⟨c1,c2⟩:=c
            obtain ⟨h5,h6,h7⟩:=h4
            simp only at h5 h6 h7
            refine ⟨c2,?_,h6,h7⟩
            rw [List.map_id] at h3
            rw [h5];exact h3
end Go.Proofs.YtblomnkamngnbaaGreatDoor
namespace Go.Proofs.YtblomnkamngnbaaGreatDoor
def Vn (n : Int) : List Int:=upto n.toNat
theorem zHC {n x : Int} : x ∈ Vn n ↔ 0 ≤ x ∧ x < n:=by
  unfold Vn upto
  rw [List.mem_map]
  constructor
  · rintro ⟨i,hi,rfl⟩;rw [List.mem_range] at hi;omega
  · rintro ⟨h1,h2⟩;exact ⟨x.toNat,List.mem_range.2 (by omega),by omega⟩
theorem zU0 {n : Int} (h : 0 ≤ n) : Vn (n + 1) = Vn n ++ [n]:=by
  unfold Vn upto
  rw [show (n + 1).toNat = n.toNat + 1 by omega,List.range_succ,List.map_append,List.map_singleton,show ((n.toNat : Nat) : Int) = n by omega]
theorem Gd.mono {V W : List Int} {t : List Nd} (h : Gd V t) (hs : ∀ x ∈ V,x ∈ W) : Gd W t:=⟨h.ty,h.len,fun x hx=>hs x (h.vs x hx)⟩
theorem Gd.up {m n : Int} {t : List Nd} (h : Gd (Vn m) t) (hn : m ≤ n) : Gd (Vn n) t:=h.mono fun x hx=>by
  rw [zHC] at hx ⊢;omega
theorem Gd.ck {V : List Int} {t : List Nd} (h : Gd V t) : ckT t = 0:=zRB.2 (zSU h.ty h.len)
theorem Gd.ok {V : List Int} {t : List Nd} (h : Gd V t) : okT t = true:=zSU h.ty h.len
theorem Gd.nn {V : List Int} {t : List Nd} (h : Gd V t) : Nn t:=fun _x hx=>(h.ty.rng hx).1
theorem Inv.next {n : Int} {L : Sto} {ρ : Int → List Nd} (h : Inv (Vn n) L ρ) (h0 : 0 ≤ n) : Inv (Vn (n + 1)) L ρ where
  gd:=fun k t hk=>(h.gd k t hk).up (by omega)
  eq:=h.eq
  dn:=h.dn
  fr:=h.fr
  ky:=fun p hp=>⟨by have:=(h.ky p hp).1;rw [zHC] at this ⊢;omega,(h.ky p hp).2⟩
  nd:=h.nd
  cnt:=by
    have:=h.cnt
    rw [zU0 h0,free,List.filter_append,List.length_append,List.length_append]
    rw [free] at this
    have h2 : ([n].filter fun k=>(zAv L k).isNone).length ≤ [n].length:=List.length_filter_le _ _
    simp only [List.length_singleton] at h2 ⊢;omega
structure SI (S : TS) : Prop where
  nx : 0 ≤ S.nx
  inv : S.er = 0 → ∃ ρ,Inv (Vn S.nx) S.st ρ
theorem SI.zero : SI ⟨0,[],0⟩:=⟨Int.le_refl _,fun _=>⟨_,Inv.nil _⟩⟩
theorem SI.bad {n e : Int} {L : Sto} (h : 0 ≤ n) (he : e ≠ 0) : SI ⟨n,L,e⟩:=⟨h,fun c=>absurd c he⟩
theorem SI.snn {S : TS} (h : SI S) (h0 : S.er = 0) : SNn S.st:=fun j t hj=>by
  obtain ⟨ρ,hI⟩:=h.inv h0;exact (hI.gd j t hj).nn
theorem zHu {S : TS} (h : S.nx ≤ 1048576) : zB7 S = { S with nx:=S.nx + 1 }:=by unfold zB7;rw [if_neg (by omega)]
theorem SI.next {S : TS} (h : SI S) (hn : S.nx ≤ 1048576) : SI (zB7 S):=by
  rw [zHu hn]
  refine ⟨by have:=h.nx;show 0 ≤ S.nx + 1;omega,fun h0=>?_⟩
  obtain ⟨ρ,hI⟩:=h.inv h0
  exact ⟨ρ,hI.next h.nx⟩
theorem zMP {n x : Int} (h : 0 ≤ x ∧ x < n) (hn : n ≤ 1048577) : Gd (Vn n) (varN x):=⟨zI8 (by omega),by simp [varN],fun y hy=>by rw [zUA,zC5] at hy;subst hy;exact zHC.2 h⟩
theorem zT2 : Ty (zBC intT):=zOd (by decide)
theorem zWF : Ty (zBC texT):=zOd (by decide)
theorem zNm {s : List UInt8} {x : Int} : ¬ Vin x (zBC s):=fun ⟨n,hn,hk,_⟩=>by
  rw [zBC,List.mem_singleton] at hn;subst hn;revert hk;show ¬ (32 : Int) = 31;decide
theorem zJp (V : List Int) : Gd V (zBC intT):=⟨zT2,by simp [zBC],fun x hx=>absurd hx zNm⟩
theorem zWM (V : List Int) : Gd V (zBC texT):=⟨zWF,by simp [zBC],fun x hx=>absurd hx zNm⟩
theorem zOQ {V : List Int} {a b : List Nd} (ha : Gd V a) (hb : Gd V b) (hl : a.length + b.length + 1 ≤ 4000) : Gd V (zEX a b):=by
  refine ⟨⟨?_,?_,?_⟩,by rw [zGC];exact hl,?_⟩
  · show cns (⟨32,arrT,0,2⟩ :: (a ++ b)) 1 = _
    rw [zCa,if_neg (by decide)]
    rw [show 0 + (⟨32,arrT,0,2⟩ : Nd).kids.toNat = 1 + 1 from rfl,zFl,zCN _ ha.ty.whl,Option.bind_some,List.drop_left,show cns b 1 = some b.length from hb.ty.whl]
    rw [zGC];simp only [Option.map_some,Option.some.injEq];omega
  · intro n hn hk
    rcases List.mem_cons.1 hn with rfl | hn
    · cases hk
    rcases List.mem_append.1 hn with hn | hn
    · exact ha.ty.lf n hn hk
    · exact hb.ty.lf n hn hk
  · intro n hn
    rcases List.mem_cons.1 hn with rfl | hn
    · decide
    rcases List.mem_append.1 hn with hn | hn
    · exact ha.ty.rt n hn
    · exact hb.ty.rt n hn
  · intro x hx
    rcases zBL.1 hx with ⟨h,_⟩ | hx
    · cases h
    rcases zEF.1 hx with hx | hx
    · exact ha.vs x hx
    · exact hb.vs x hx
theorem Gd.sh {n k : Int} {t : List Nd} (h : Gd (Vn n) t) (h0 : 0 ≤ k) (hk : n + k ≤ 1048577) : Gd (Vn (n + k)) (sh k t):=by
  have hv : ∀ x,Vin x t → 0 ≤ x ∧ x < n:=fun x hx=>zHC.1 (h.vs x hx)
  refine ⟨h.ty.ren fun x hx=>?_,by rw [zPo];exact h.len,fun y hy=>?_⟩
  · have:=hv x hx;unfold Rng;omega
  · obtain ⟨x,hx,rfl⟩:=zM9.1 hy
    have:=hv x hx;rw [zHC];omega
theorem zNN {n k : Int} {t : List Nd} (h : Gd (Vn n) t) (h0 : 0 ≤ k) (hk : n + k ≤ 1048577) : zBb (Go.Proofs.YtblomnkamngnbaaGreatDoor.sh k t) = (zBb t).map (· + k):=by
  rw [zBb,if_pos (h.sh h0 hk).ok,zBb,if_pos h.ok]
  exact zK0 fun x y _ _ e=>by omega
structure Tw (k : Int) (A B : TS) : Prop where
  k0 : 0 ≤ k
  nx : A.nx = B.nx + k
  er : A.er = B.er
  st : B.er = 0 → SSim k A.st B.st
  sa : SI A
  sb : SI B
theorem Tw.self {S : TS} (h : SI S) : Tw 0 S S:=⟨Int.le_refl _,by omega,rfl,fun _ j _=>by rw [show j + 0 = j by omega];cases zAv S.st j <;> simp [zUJ],h,h⟩
theorem Tw.bad {k : Int} {A B : TS} (h : Tw k A B) {L M : Sto} {e : Int} (he : e ≠ 0) : Tw k ⟨A.nx,L,e⟩ ⟨B.nx,M,e⟩:=⟨h.k0,h.nx,rfl,fun c=>absurd c he,SI.bad h.sa.nx he,SI.bad h.sb.nx he⟩
theorem zKd {S : TS} {e : Int} (h : S.er = 0) : zG0 S e = ⟨S.nx,S.st,e⟩:=by unfold zG0;rw [if_pos h]
theorem Tw.next {k : Int} {A B : TS} (h : Tw k A B) (hn : B.nx + k ≤ 1048576) : Tw k (zB7 A) (zB7 B):=by
  have h1:=h.nx
  have h2:=h.k0
  have e1:=zHu (S:=A) (by omega)
  have e2:=zHu (S:=B) (by omega)
  refine ⟨h.k0,?_,?_,?_,h.sa.next (by omega),h.sb.next (by omega)⟩
  · rw [e1,e2];show A.nx + 1 = B.nx + 1 + k;omega
  · rw [e1,e2];exact h.er
  · rw [e1,e2];exact h.st
theorem zIU {S : TS} (h : S.nx ≤ 1048576) : (zB7 S).nx = S.nx + 1:=by rw [zHu h]
theorem Ev.both {P Q R : Nat → Prop} (hp : Ev P) (hq : Ev Q) (h : ∀ m,P m → Q m → R m) : Ev R:=(hp.and hq).mono fun m ⟨a,b⟩=>h m a b
theorem zDD {k : Int} {A B : TS} {a b : List Nd} (h : Tw k A B) (hn : B.nx + k ≤ 1048577) (ha : Gd (Vn B.nx) a) (hb : Gd (Vn B.nx) b) :
    ∃ A' B',(Ev fun q=>zCy q B a b = some B' ∧ zCy q A (sh k a) (sh k b) = some A') ∧ Tw k A' B' ∧ B'.nx = B.nx:=by
  have her:=h.er
  have hnx:=h.nx
  have ha':=ha.sh h.k0 hn
  have hb':=hb.sh h.k0 hn
  rw [← hnx] at ha' hb'
  by_cases h0 : B.er = 0
  case neg=>exact ⟨A,B,Ev.all fun q=>⟨by rw [zCy,if_pos h0],by rw [zCy,if_pos (by omega)]⟩,h,rfl⟩
  obtain ⟨ρ,hI⟩:=h.sb.inv h0
  obtain ⟨τ,hJ⟩:=h.sa.inv (by omega)
  obtain ⟨⟨e,L⟩,v1,r1⟩:=Inv.same _ _ B.st ρ a b hI rfl rfl ha hb
  obtain ⟨⟨f,M⟩,v2,r2⟩:=Inv.same _ _ A.st τ _ _ hJ rfl rfl ha' hb'
  obtain ⟨n,hn1,hn2⟩:=(v1.and v2).get
  obtain ⟨A',g1,g2,g3⟩:=zJ1 n a b _ (h.st h0) (h.sb.snn h0) ha.nn hb.nn hn1
  rw [g1] at hn2
  injection hn2 with hn2;injection hn2 with e1 e2
  simp only at e1 e2 g2 g3
  subst e1;subst e2
  have u1 : ∀ q,uniF q B.st a b = zEk q B.st a b:=fun q=>by rw [uniF,if_neg (by rw [ha.ck,hb.ck];omega)]
  have u2 : ∀ q,uniF q A.st (sh k a) (sh k b) = zEk q A.st (sh k a) (sh k b):=fun q=>by rw [uniF,if_neg (by rw [ha'.ck,hb'.ck];omega)]
  rcases r1 with ⟨z1,⟨ρ',z2⟩,_⟩ | ⟨z1,_⟩
  · simp only at z1 z2
    subst z1
    rcases r2 with ⟨_,⟨τ',y2⟩,_⟩ | ⟨y1,_⟩
    · refine ⟨{ A with st:=A' }, { B with st:=L },v1.both v2 fun q p1 p2=>⟨?_,?_⟩,⟨h.k0,hnx,her,fun _=>g2,⟨h.sa.nx,fun _=>⟨τ',y2⟩⟩,⟨h.sb.nx,fun _=>⟨ρ',z2⟩⟩⟩,rfl⟩
      · rw [zCy,if_neg (by omega),u1,p1];rfl
      · rw [zCy,if_neg (by omega),u2,p2];rfl
    · cases y1
  · simp only at z1
    subst z1
    refine ⟨⟨A.nx,A',112⟩,⟨B.nx,L,112⟩,v1.both v2 fun q p1 p2=>⟨?_,?_⟩,h.bad (by decide),rfl⟩
    · rw [zCy,if_neg (by omega),u1,p1];simp only;rw [if_pos (by decide),zKd (S:={ B with st:=L }) h0]
    · rw [zCy,if_neg (by omega),u2,p2];simp only;rw [if_pos (by decide),zKd (S:={ A with st:=A' }) (by show A.er = 0;omega)]
theorem zF1 {k : Int} {A B : TS} {t : List Nd} (h : Tw k A B) (hn : B.nx + k ≤ 1048577) (ht : Gd (Vn B.nx) t) :
    ∃ r A' B',(Ev fun q=>zCI q B t = some (r,B') ∧ zCI q A (sh k t) = some (sh k r,A')) ∧ Tw k A' B' ∧ B'.nx = B.nx ∧ Gd (Vn B.nx) r ∧ (B'.er = 0 → B' = B ∧ A' = A):=by
  have her:=h.er
  have hnx:=h.nx
  have ht':=ht.sh h.k0 hn
  rw [← hnx] at ht'
  by_cases h0 : B.er = 0
  case neg=>exact ⟨t,A,B,Ev.all fun q=>⟨by rw [zCI,if_pos h0],by rw [zCI,if_pos (by omega)]⟩,h,rfl,ht,fun c=>absurd c h0⟩
  obtain ⟨ρ,hI⟩:=h.sb.inv h0
  obtain ⟨τ,hJ⟩:=h.sa.inv (by omega)
  obtain ⟨S1,v1⟩:=hI.size ht.ty
  obtain ⟨S2,v2⟩:=hJ.size ht'.ty
  have c1:=ht.ck
  have c2:=ht'.ck
  have v3:=hI.res ht.ty
  have v4:=hJ.res ht'.ty
  have hsz : min ((sub ρ t).length : Int) 4001 = min ((sub τ (sh k t)).length : Int) 4001:=by
    obtain ⟨n,n1,n2⟩:=(v1.and v2).get
    obtain ⟨T',g1,_⟩:=zNW (h.st h0) (h.sb.snn h0) n t [] [] _ ht.nn (fun _ _=>rfl) n1
    rw [g1] at n2;injection n2 with n2;injection n2 with n2 _
  have hrs : sub τ (sh k t) = sh k (sub ρ t):=by
    obtain ⟨n,n1,n2⟩:=(v3.and v4).get
    have g1:=zP2 (h.st h0) (h.sb.snn h0) n t _ ht.nn n1
    rw [g1] at n2;injection n2 with n2;exact n2.symm
  by_cases hm : min ((sub ρ t).length : Int) 4001 > 4000
  · refine ⟨t,⟨A.nx,A.st,113⟩,⟨B.nx,B.st,113⟩,v1.both v2 fun q p1 p2=>⟨?_,?_⟩,h.bad (by decide),rfl,ht,fun c=>by cases c⟩
    · rw [zCI,if_neg (by omega),if_neg (by omega),p1];simp only;rw [if_pos hm,zKd h0]
    · rw [zCI,if_neg (by omega),if_neg (by omega),p2];simp only;rw [if_pos (by rw [← hsz];exact hm),zKd (by omega)]
  · refine ⟨sub ρ t,A,B,(v1.and v3).both (v2.and v4) fun q ⟨p1,p3⟩ ⟨p2,p4⟩=>⟨?_,?_⟩,h,rfl,⟨hI.tyL ht.ty,by omega,fun x hx=>?_⟩,fun _=>⟨rfl,rfl⟩⟩
    · rw [zCI,if_neg (by omega),if_neg (by omega),p1];simp only;rw [if_neg hm,p3];simp only;rw [if_pos (by omega)]
    · rw [zCI,if_neg (by omega),if_neg (by omega),p2];simp only;rw [if_neg (by rw [← hsz];exact hm),p4,hrs];simp only;rw [if_pos (by rw [zPo];omega)]
    · obtain ⟨y,hy,hx⟩:=zGW.1 hx
      exact hI.inV y (ht.vs y hy) x hx
end Go.Proofs.YtblomnkamngnbaaGreatDoor
namespace Go.Proofs.YtblomnkamngnbaaGreatDoor
theorem zFe (v : Int) (r : List Int) (x : Int) : idxF (v :: r) x = if v = x then 0 else if x ∈ r then idxF r x + 1 else -1:=by
  unfold idxF
  rw [List.findIdx?_cons]
  by_cases h : v = x
  · subst h;simp
  · have h1 : (v == x) = false:=by simpa using h
    rw [if_neg h,h1]
    cases hf : r.findIdx? (· == x) with
    | none =>
      have : x ∉ r:=fun hx=>by
        rw [List.findIdx?_eq_none_iff] at hf
        have:=hf x hx
        simp at this
      simp [this]
    | some i =>
      obtain ⟨h2,h3,_⟩:=List.findIdx?_eq_some_iff_getElem.1 hf
      have : x ∈ r:=by have h4 : r[i] = x:=by simpa using h3
                       rw [← h4];exact List.getElem_mem h2
      simp [this]
theorem zHw : ∀ {vs : List Int} {x : Int},x ∈ vs → 0 ≤ idxF vs x ∧ idxF vs x < vs.length
  | v :: r,x,h=>by
    rw [zFe]
    split
    · simp only [List.length_cons];omega
    · rename_i hne
      have hr : x ∈ r:=by rcases List.mem_cons.1 h with e | e;exact absurd e.symm hne;exact e
      have:=zHw hr
      rw [if_pos hr];simp only [List.length_cons];omega
theorem zKJ {f : Int → Int} (hf : ∀ x y,f x = f y → x = y) : ∀ (vs : List Int) (x : Int),idxF (vs.map f) (f x) = idxF vs x
  | [],x=>rfl
  | v :: r,x=>by
    rw [List.map_cons,zFe,zFe,zKJ hf r x]
    have h1 : f v = f x ↔ v = x:=⟨hf v x,fun e=>by rw [e]⟩
    have h2 : f x ∈ r.map f ↔ x ∈ r:=by
      rw [List.mem_map]
      exact ⟨fun ⟨y,hy,e⟩=>hf y x e ▸ hy,fun h=>⟨x,h,rfl⟩⟩
    by_cases a : v = x <;> by_cases b : x ∈ r <;> simp [h1,h2,a,b]
def fre (vs : List Int) (n x : Int) : Int:=if x ∈ vs then n + idxF vs x else x
theorem zIn (x : Int) : ∀ (vs : List Int) (S : TS),(zCC vs S).1.find? (fun b=>decide (b.var = x)) = if x ∈ vs then some ⟨x,varN (S.nx + idxF vs x)⟩ else none
  | [],S=>by simp [zCC]
  | v :: r,S=>by
    rw [zCC,List.find?_cons]
    by_cases h : v = x
    · subst h;simp [zFe]
    · have h2 : ¬ x = v:=fun e=>h e.symm
      rw [show (decide ((⟨v,varN S.nx⟩ : Bd).var = x)) = false from by simpa using h]
      simp only
      rw [zIn x r,zGm,zFe,if_neg h]
      by_cases hr : x ∈ r
      · rw [if_pos hr,if_pos (List.mem_cons_of_mem _ hr),if_pos hr,show S.nx + 1 + idxF r x = S.nx + (idxF r x + 1) by omega]
      · rw [if_neg hr,if_neg (by simp [h2,hr])]
theorem zEq (S : TS) {t : List Nd} (vs : List Int) (hl : Lf t) : (zB0 S t vs).1 = t.map (ren (fre vs S.nx)):=by
  show zDp (zCC vs S).1 t = _
  unfold zDp
  have : ∀ n ∈ t,app1 (zCC vs S).1 n = [ren (fre vs S.nx) n]:=fun n hn=>by
    unfold app1
    by_cases hk : n.kind = 31
    · rw [if_pos hk,zIn]
      have e:=(hl n hn hk).1
      rw [show ren (fre vs S.nx) n = vN (fre vs S.nx n.num) by rw [e];exact zP5 _ _]
      unfold fre
      by_cases hv : n.num ∈ vs
      · rw [if_pos hv,if_pos hv];rfl
      · rw [if_neg hv,if_neg hv, ← e]
    · rw [if_neg hk,zEJ hk]
  clear hl
  induction t with
  | nil=>rfl
  | cons n r ih=>rw [List.flatMap_cons,this n List.mem_cons_self,List.map_cons,ih (fun m hm=>this m (List.mem_cons_of_mem _ hm))];rfl
theorem zIm (S : TS) (t : List Nd) (vs : List Int) : (zB0 S t vs).2.nx = S.nx + vs.length:=by
  show (zCC vs S).2.nx = _;rw [zFD,zLO]
theorem Tw.nxI {k : Int} : ∀ (m : Nat) {A B : TS},Tw k A B → B.nx + m + k ≤ 1048577 → Tw k (nxI m A) (nxI m B)
  | 0,A,B,h,_=>h
  | m + 1,A,B,h,hn=>by
    rw [Go.Proofs.YtblomnkamngnbaaGreatDoor.nxI,Go.Proofs.YtblomnkamngnbaaGreatDoor.nxI]
    have h2:=h.next (by omega)
    refine Tw.nxI m h2 ?_
    rw [zGm];omega
theorem Tw.fresh {k : Int} {A B : TS} (h : Tw k A B) (t1 t2 : List Nd) {v1 v2 : List Int} (hl : v1.length = v2.length) (hn : B.nx + v2.length + k ≤ 1048577) : Tw k (zB0 A t1 v1).2 (zB0 B t2 v2).2:=by
  show Tw k (zCC v1 A).2 (zCC v2 B).2
  rw [zFD,zFD,hl];exact h.nxI _ hn
theorem zO2 {k : Int} {A B : TS} (h : Tw k A B) {t : List Nd} {vs : List Int} (ht : Gd (Vn B.nx) t) (hn : B.nx + vs.length + k ≤ 1048577) :
    (zB0 A (sh k t) (vs.map (· + k))).1 = sh k (zB0 B t vs).1 ∧ Gd (Vn (B.nx + vs.length)) (zB0 B t vs).1:=by
  have h0:=h.sb.nx
  have hk:=h.k0
  have hv : ∀ x,Vin x t → 0 ≤ x ∧ x < B.nx:=fun x hx=>zHC.1 (ht.vs x hx)
  have hf : ∀ x,0 ≤ x ∧ x < B.nx → 0 ≤ fre vs B.nx x ∧ fre vs B.nx x < B.nx + vs.length:=fun x hx=>by
    unfold fre
    split
    · have:=zHw ‹x ∈ vs›;omega
    · omega
  constructor
  · rw [zEq A _ (ht.sh hk (by omega)).ty.lf,zEq B vs ht.ty.lf]
    unfold sh
    rw [zHN,zHN]
    refine zFW fun x _=>?_
    have hm : x + k ∈ vs.map (· + k) ↔ x ∈ vs:=by
      rw [List.mem_map]
      exact ⟨fun ⟨y,hy,e⟩=>by have : y = x:=by omega
                              exact this ▸ hy,fun h=>⟨x,h,rfl⟩⟩
    have hi : idxF (vs.map (· + k)) (x + k) = idxF vs x:=zKJ (f:=(· + k)) (fun x y e=>by simpa using e) vs x
    unfold fre
    by_cases hx : x ∈ vs
    · rw [if_pos (hm.2 hx),if_pos hx,hi,h.nx];omega
    · rw [if_neg (fun c=>hx (hm.1 c)),if_neg hx]
  · rw [zEq B vs ht.ty.lf]
    refine ⟨ht.ty.ren fun x hx=>?_,by rw [List.length_map];exact ht.len,fun y hy=>?_⟩
    · have:=hf x (hv x hx);unfold Rng;omega
    · obtain ⟨x,hx,rfl⟩:=zM9.1 hy
      rw [zHC];exact hf x (hv x hx)
theorem zGT {k : Int} {A B : TS} (h : Tw k A B) {t u : List Nd} {vs ws : List Int} (ht : okT t = true) (hu : okT u = true) (hv : ∀ x,Vin x t → x ∈ vs) (hw : ∀ x,Vin x u → x ∈ ws) (_hl : vs.length = ws.length)
    (he : t.map (ren (idxF vs)) = u.map (ren (idxF ws))) (hn : B.nx + ws.length + k ≤ 1048577) :
    (zB0 A t vs).1 = sh k (zB0 B u ws).1 ∧ Gd (Vn (B.nx + ws.length)) (zB0 B u ws).1 ∧ (zB0 B u ws).1 = u.map (ren fun x=>B.nx + idxF ws x) ∧ (zB0 A t vs).1 = t.map (ren fun x=>A.nx + idxF vs x):=by
  have h0:=h.sb.nx
  have hk:=h.k0
  have tt:=zOd ht
  have tu:=zOd hu
  have e2 : (zB0 B u ws).1 = u.map (ren fun x=>B.nx + idxF ws x):=by
    rw [zEq B ws tu.lf]
    exact zFW fun x hx=>by unfold fre;rw [if_pos (hw x hx)]
  have e1 : (zB0 A t vs).1 = t.map (ren fun x=>A.nx + idxF vs x):=by
    rw [zEq A vs tt.lf]
    exact zFW fun x hx=>by unfold fre;rw [if_pos (hv x hx)]
  refine ⟨?_,?_,e2,e1⟩
  · rw [e1,e2]
    unfold sh
    rw [zHN]
    have a1:=zHN (idxF vs) (fun i=>A.nx + i) t
    have a2:=zHN (idxF ws) (fun i=>A.nx + i) u
    rw [← a1,he,a2]
    exact zFW fun x _=>by rw [h.nx];omega
  · rw [e2]
    refine ⟨tu.ren fun x hx=>?_,by rw [List.length_map];exact (zDJ hu).1,fun y hy=>?_⟩
    · have:=zHw (hw x hx);unfold Rng;omega
    · obtain ⟨x,hx,rfl⟩:=zM9.1 hy
      have:=zHw (hw x hx)
      rw [zHC];omega
def shL (k : Int) (l : Lc) : Lc:=⟨l.name,sh k l.t,l.any.map (· + k)⟩
abbrev zDV (E : List Sg) (z : List UInt8) : Option Sg:=E.find? fun s=>decide (s.name = z)
abbrev zIE (N : List Lc) (z : List UInt8) : Option Lc:=N.reverse.find? fun l=>decide (l.name = z)
structure Env2 (E1 : List Sg) (pre : List Lc) (E2 : List Sg) : Prop where
  ok : ∀ s ∈ E2,okT s.ty = true
  con : ∀ c,conF c = true → zDV E1 c = zDV E2 c
  shut : ∀ l ∈ pre,okT l.t = true ∧ ∀ x,Vin x l.t → x ∈ l.any
  low : ∀ z s,zDV E2 z = some s → (zIE pre z = none ∧ zDV E1 z = some s) ∨ ∃ l,zIE pre z = some l ∧ l.any = zBb l.t ∧ s.ty = zB2 l.t
theorem Env2.self {E : List Sg} (h : ∀ s ∈ E,okT s.ty = true) : Env2 E [] E:=⟨h,fun _ _=>rfl,fun _ h=>(by cases h),fun _ _ h=>.inl ⟨rfl,h⟩⟩
theorem zJt {E : List Sg} {S : TS} {z : List UInt8} {s : Sg} (h : zDV E z = some s) : zHj E S z = some ((zB0 S s.ty (zBb s.ty)).1,(zB0 S s.ty (zBb s.ty)).2):=by
  have h : E.find? (fun s=>decide (s.name = z)) = some s:=h
  unfold zHj;rw [h]
theorem zKB {E : List Sg} {N : List Lc} {S : TS} {z : List UInt8} {l : Lc} (h : zIE N z = some l) : zEn E N S z = some ((zB0 S l.t l.any).1,(zB0 S l.t l.any).2):=by
  have h : N.reverse.find? (fun l=>decide (l.name = z)) = some l:=h
  unfold zEn;rw [h]
theorem zNp {E : List Sg} {N : List Lc} {S : TS} {z : List UInt8} {s : Sg} (h : zIE N z = none) (hs : zDV E z = some s) : zEn E N S z = some ((zB0 S s.ty (zBb s.ty)).1,(zB0 S s.ty (zBb s.ty)).2):=by
  have h : N.reverse.find? (fun l=>decide (l.name = z)) = none:=h
  unfold zEn;rw [h];exact zJt hs
theorem zJi {L : List Nd} (h : okT L = true) : zB2 L = L.map (ren (idxF (zBb L))):=by
  rw [zB2,if_pos h,zBb,if_pos h];rfl
def NOk (n : Int) (N : List Lc) : Prop:=∀ l ∈ N,Gd (Vn n) l.t ∧ l.any.length ≤ 4000
theorem NOk.up {m n : Int} {N : List Lc} (h : NOk m N) (hn : m ≤ n) : NOk n N:=fun l hl=>⟨(h l hl).1.up hn,(h l hl).2⟩
theorem NOk.app {n : Int} {N : List Lc} {l : Lc} (h : NOk n N) (h1 : Gd (Vn n) l.t) (h2 : l.any.length ≤ 4000) : NOk n (N ++ [l]):=fun m hm=>by
  rcases List.mem_append.1 hm with h3 | h3
  · exact h m h3
  · rw [List.mem_singleton] at h3;subst h3;exact ⟨h1,h2⟩
theorem zE2 {t : List Nd} (h : okT t = true) {x : Int} (hx : Vin x t) : x ∈ zBb t:=by rw [zBb,if_pos h];exact zFP.2 hx
theorem zPh (pre N : List Lc) (k : Int) (z : List UInt8) : zIE (pre ++ N.map (shL k)) z = match zIE N z with | some l=>some (shL k l) | none=>zIE pre z:=by
  unfold zIE
  rw [List.reverse_append,List.find?_append, ← List.map_reverse,List.find?_map]
  have : (fun l=>decide (l.name = z)) ∘ shL k = fun l : Lc=>decide (l.name = z):=rfl
  rw [this]
  cases N.reverse.find? (fun l=>decide (l.name = z)) <;> rfl
theorem zR5 {k : Int} {A B : TS} {E1 E2 : List Sg} {pre : List Lc} (hE : Env2 E1 pre E2) (h : Tw k A B) {c : List UInt8} {s : Sg} (hc : conF c = true) (hs : zDV E2 c = some s) (hn : B.nx + 4000 + k ≤ 1048577) :
    ∃ u A' B',zHj E2 B c = some (u,B') ∧ zHj E1 A c = some (sh k u,A') ∧ Tw k A' B' ∧ Gd (Vn B'.nx) u ∧ B.nx ≤ B'.nx ∧ B'.nx ≤ B.nx + 4000 ∧ ∃ f,u = s.ty.map (ren f):=by
  have h1 : zDV E1 c = some s:=by rw [hE.con c hc];exact hs
  have hok:=hE.ok s (List.mem_of_find?_eq_some hs)
  have hl:=zEi s.ty
  obtain ⟨g1,g2,g3,_⟩:=zGT h hok hok (fun x=>zE2 hok) (fun x=>zE2 hok) rfl rfl (by omega)
  have hnx:=zIm B s.ty (zBb s.ty)
  refine ⟨(zB0 B s.ty (zBb s.ty)).1,(zB0 A s.ty (zBb s.ty)).2,(zB0 B s.ty (zBb s.ty)).2,?_,?_,h.fresh _ _ rfl (by omega),by rw [hnx];exact g2,by omega,by omega,_,g3⟩
  · exact zJt hs
  · rw [zJt h1, ← g1]
theorem zOn {k : Int} {A B : TS} {E1 E2 : List Sg} {pre N : List Lc} (hE : Env2 E1 pre E2) (h : Tw k A B) (hN : NOk B.nx N) {z : List UInt8} (hz : (∃ l ∈ N,l.name = z) ∨ (zDV E2 z).isSome = true) (hn : B.nx + 4000 + k ≤ 1048577) :
    ∃ u A' B',zEn E2 N B z = some (u,B') ∧ zEn E1 (pre ++ N.map (shL k)) A z = some (sh k u,A') ∧ Tw k A' B' ∧ Gd (Vn B'.nx) u ∧ B.nx ≤ B'.nx ∧ B'.nx ≤ B.nx + 4000:=by
  have hap:=zPh pre N k z
  cases hl : zIE N z with
  | some l =>
    rw [hl] at hap
    obtain ⟨h1,h2⟩:=hN l (List.mem_reverse.1 (List.mem_of_find?_eq_some hl))
    obtain ⟨g1,g2⟩:=zO2 (vs:=l.any) h h1 (by omega)
    have hnx:=zIm B l.t l.any
    refine ⟨(zB0 B l.t l.any).1,(zB0 A (sh k l.t) (l.any.map (· + k))).2,(zB0 B l.t l.any).2,?_,?_,h.fresh _ _ (by simp) (by omega),by rw [hnx];exact g2,by omega,by omega⟩
    · exact zKB hl
    · rw [zKB hap, ← g1];rfl
  | none =>
    rw [hl] at hap
    have hnot : ¬ ∃ l ∈ N,l.name = z:=fun ⟨l,h1,h2⟩=>by
      have:=List.find?_eq_none.1 hl l (List.mem_reverse.2 h1)
      exact this (decide_eq_true h2)
    obtain ⟨s,hs⟩:=Option.isSome_iff_exists.1 (hz.resolve_left hnot)
    have hok:=hE.ok s (List.mem_of_find?_eq_some hs)
    have hlv:=zEi s.ty
    have hnx:=zIm B s.ty (zBb s.ty)
    have r2 : zEn E2 N B z = some ((zB0 B s.ty (zBb s.ty)).1,(zB0 B s.ty (zBb s.ty)).2):=zNp hl hs
    rcases hE.low z s hs with ⟨p1,p2⟩ | ⟨l,p1,p2,p3⟩
    · obtain ⟨g1,g2,_⟩:=zGT h hok hok (fun x=>zE2 hok) (fun x=>zE2 hok) rfl rfl (by omega)
      refine ⟨_,(zB0 A s.ty (zBb s.ty)).2,_,r2,?_,h.fresh _ _ rfl (by omega),by rw [hnx];exact g2,by omega,by omega⟩
      rw [p1] at hap
      rw [zNp hap p2, ← g1]
    · have hokl:=(hE.shut l (List.mem_reverse.1 (List.mem_of_find?_eq_some p1))).1
      obtain ⟨c1,c2,c3,c4⟩:=zEy hokl
      have hvs : (zBb l.t).length = (zBb s.ty).length:=by rw [p3,c2,zR3]
      obtain ⟨g1,g2,_⟩:=zGT h hokl hok (fun x=>zE2 hokl) (fun x=>zE2 hok) hvs (by
        rw [p3, ← zJi hokl, ← zJi c1,c3]) (by omega)
      refine ⟨_,(zB0 A l.t (zBb l.t)).2,_,r2,?_,h.fresh _ _ hvs (by omega),by rw [hnx];exact g2,by omega,by omega⟩
      rw [p1] at hap
      rw [zKB hap,p2, ← g1]
def hid (l : List Int) (x : Int) : List Nd:=if x ∈ l then zBC intT else [vN x]
theorem zF6 {l : List Int} {t : List Nd} (h : Lf t) : zDp (zCe l) t = sub (hid l) t:=by
  unfold zDp sub
  induction t with
  | nil=>rfl
  | cons n r ih =>
    rw [List.flatMap_cons,List.flatMap_cons,ih fun m hm=>h m (List.mem_cons_of_mem _ hm)]
    congr 1
    unfold app1 sub1
    by_cases hk : n.kind = 31
    · rw [if_pos hk,if_pos hk]
      unfold hid
      have e:=(h n List.mem_cons_self hk).1
      by_cases hm : n.num ∈ l
      · rw [if_pos hm]
        cases hf : (zCe l).find? (fun b=>decide (b.var = n.num)) with
        | none =>
          have:=List.find?_eq_none.1 hf ⟨n.num,zBC intT⟩ (List.mem_map.2 ⟨n.num,hm,rfl⟩)
          exact absurd (decide_eq_true rfl) this
        | some b =>
          obtain ⟨v,_,rfl⟩:=List.mem_map.1 (List.mem_of_find?_eq_some hf);rfl
      · rw [if_neg hm]
        cases hf : (zCe l).find? (fun b=>decide (b.var = n.num)) with
        | none=>simp only;rw [← e]
        | some b =>
          obtain ⟨v,hv,rfl⟩:=List.mem_map.1 (List.mem_of_find?_eq_some hf)
          have h9:=List.find?_some hf
          have h8 : v = n.num:=of_decide_eq_true h9
          exact absurd (h8 ▸ hv) hm
    · rw [if_neg hk,if_neg hk]
theorem zTj {l : List Int} {x : Int} (h : Rng x) : Ty (hid l x):=by
  unfold hid;split
  · exact zT2
  · exact zI8 h
theorem zMp {l : List Int} : ∀ {t : List Nd},(sub (hid l) t).length = t.length
  | []=>rfl
  | n :: r=>by
    rw [zCA,List.length_append,zMp,List.length_cons]
    have : (sub1 (hid l) n).length = 1:=by
      unfold sub1 hid;split
      · split <;> rfl
      · rfl
    omega
theorem Gd.hid {n : Int} {t : List Nd} (h : Gd (Vn n) t) (l : List Int) : Gd (Vn n) (sub (hid l) t):=by
  refine ⟨h.ty.sub fun x hx=>zTj (h.ty.rng hx),by rw [zMp];exact h.len,fun x hx=>?_⟩
  obtain ⟨y,hy,hx⟩:=zGW.1 hx
  unfold Go.Proofs.YtblomnkamngnbaaGreatDoor.hid at hx
  split at hx
  · exact absurd hx zNm
  · rw [zC5] at hx;subst hx;exact h.vs _ hy
theorem zVb {n k : Int} {t : List Nd} (h : Gd (Vn n) t) (_h0 : 0 ≤ k) (_hk : n + k ≤ 1048577) (l : List Int) : sub (hid (l.map (· + k))) (sh k t) = sh k (sub (hid l) t):=by
  have e1 : sh k t = sub (fun x=>[vN (x + k)]) t:=zMe h.ty.lf
  have e2 : sh k (sub (hid l) t) = sub (fun x=>[vN (x + k)]) (sub (hid l) t):=zMe (h.hid l).ty.lf
  rw [e1,e2,zHI,zHI]
  refine zGc fun x _=>?_
  rw [zCd]
  have hm : x + k ∈ l.map (· + k) ↔ x ∈ l:=by
    rw [List.mem_map]
    exact ⟨fun ⟨y,hy,e⟩=>by have : y = x:=by omega
                            exact this ▸ hy,fun h=>⟨x,h,rfl⟩⟩
  unfold hid
  by_cases hx : x ∈ l
  · rw [if_pos (hm.2 hx),if_pos hx];rfl
  · rw [if_neg (fun c=>hx (hm.1 c)),if_neg hx,zCd]
theorem zK8 (q : Nat) (L : Sto) : ∀ {t : List Nd} (acc : Int) (S : Seen),(∀ x,¬ Vin x t) → 0 ≤ acc → acc ≤ 4001 → zBc (szS q L) (acc,S) t = some (min (acc + (t.length : Int)) 4001,S)
  | [],acc,S,_,h0,h1=>by simp only [zBc,List.length_nil];congr 2;omega
  | n :: r,acc,S,h,h0,h1=>by
    have hk : n.kind ≠ 31:=fun c=>h n.num (zBL.2 (.inl ⟨c,rfl⟩))
    have ih:=zK8 q L (t:=r) (min (acc + 1) 4001) S (fun x hx=>h x (zBL.2 (.inr hx))) (by omega) (by omega)
    simp only [zBc,szS,if_neg hk,ih,List.length_cons]
    congr 2;omega
theorem zNc (q : Nat) (L : Sto) : ∀ {t : List Nd},(∀ x,¬ Vin x t) → catO (resS q L) t = some t
  | [],_=>rfl
  | n :: r,h=>by
    have hk : n.kind ≠ 31:=fun c=>h n.num (zBL.2 (.inl ⟨c,rfl⟩))
    simp only [catO,resS,if_neg hk,zNc q L (t:=r) (fun x hx=>h x (zBL.2 (.inr hx)))];rfl
theorem zOt (S : TS) {t : List Nd} (ht : okT t = true) (hv : ∀ x,¬ Vin x t) : Ev fun q=>zCI q S t = some (t,S):=by
  refine (Ev.all (P:=fun _=>True) fun _=>trivial).succ fun q _=>?_
  unfold zCI
  have hl:=(zDJ ht).1
  by_cases h0 : S.er ≠ 0
  · rw [if_pos h0]
  · rw [if_neg h0,if_neg (by rw [zRB.2 ht];omega),zEA,zK8 q S.st 0 [] hv (by omega) (by omega)]
    simp only
    rw [if_neg (by omega),zIM,zNc q S.st hv]
    simp only;rw [if_pos (by omega)]
theorem zMC {q : Nat} : ∀ (M N : List Lc) {S S1 S2 : TS} {b c : List Int},zB3 q M S = some (b,S1) → zB3 q N S1 = some (c,S2) → zB3 q (M ++ N) S = some (b ++ c,S2)
  | [],N,S,S1,S2,b,c,h,k=>by
    rw [zB3] at h;injection h with h;injection h with e1 e2;subst e1;subst e2;exact k
  | l :: M,N,S,S1,S2,b,c,h,k=>by
    rw [zB3] at h
    rw [List.cons_append,zB3]
    split at h
    · rename_i u T hu
      split at h
      · rename_i b2 T2 h2
        injection h with h;injection h with e1 e2;subst e1;subst e2
        rw [zMC M N h2 k];simp only;rw [List.append_assoc]
      · cases h
    · cases h
theorem zOb {t : List Nd} (h : ∀ x,¬ Vin x t) : zBb t = []:=by
  unfold zBb;split
  · exact List.eq_nil_iff_forall_not_mem.2 fun x hx=>h x (zFP.1 hx)
  · rfl
theorem zMB : ∀ {pre : List Lc} (S : TS),(∀ l ∈ pre,okT l.t = true ∧ ∀ x,Vin x l.t → x ∈ l.any) → Ev fun q=>zB3 q pre S = some ([],S)
  | [],S,_=>Ev.all fun _=>rfl
  | l :: r,S,h=>by
    obtain ⟨h1,h2⟩:=h l List.mem_cons_self
    have ty:=zOd h1
    have hno : ∀ x,¬ Vin x (zDp (zCe l.any) l.t):=fun x hx=>by
      rw [zF6 ty.lf] at hx
      obtain ⟨y,hy,hx⟩:=zGW.1 hx
      rw [hid,if_pos (h2 y hy)] at hx
      exact zNm hx
    have hok : okT (zDp (zCe l.any) l.t) = true:=by
      rw [zF6 ty.lf]
      exact zSU (ty.sub fun x hx=>zTj (ty.rng hx)) (by rw [zMp];exact (zDJ h1).1)
    refine (zOt S hok hno).both (zMB S fun m hm=>h m (List.mem_cons_of_mem _ hm)) fun q p1 p2=>?_
    rw [zB3,p1];simp only;rw [p2,zOb hno];rfl
theorem zJj {k : Int} : ∀ (N : List Lc) {A B : TS},Tw k A B → NOk B.nx N → B.nx + k ≤ 1048577 →
    ∃ bs A' B',(Ev fun q=>zB3 q N B = some (bs,B') ∧ zB3 q (N.map (shL k)) A = some (bs.map (· + k),A')) ∧ Tw k A' B' ∧ B'.nx = B.nx
  | [],A,B,h,_,_=>⟨[],A,B,Ev.all fun _=>⟨rfl,rfl⟩,h,rfl⟩
  | l :: N,A,B,h,hN,hn=>by
    obtain ⟨h1,h2⟩:=hN l List.mem_cons_self
    have hh:=h1.hid l.any
    obtain ⟨r,A1,B1,e1,t1,n1,g1,_⟩:=zF1 h hn hh
    obtain ⟨bs,A2,B2,e2,t2,n2⟩:=zJj N t1 (by rw [n1];exact fun m hm=>hN m (List.mem_cons_of_mem _ hm)) (by omega)
    refine ⟨zBb r ++ bs,A2,B2,e1.both e2 fun q ⟨p1,p2⟩ ⟨p3,p4⟩=>⟨?_,?_⟩,t2,by omega⟩
    · rw [zB3,zF6 h1.ty.lf,p1];simp only;rw [p3]
    · rw [List.map_cons,zB3]
      show (match zCI q A (zDp (zCe (l.any.map (· + k))) (sh k l.t)) with | some (u,S1)=>_ | none=>_) = _
      rw [zF6 (h1.sh h.k0 hn).ty.lf,zVb h1 h.k0 hn,p2];simp only;rw [p4];simp only
      rw [zNN g1 h.k0 hn,List.map_append]
theorem zMz (bs : List Int) (k v : Int) : (bs.map (· + k)).contains (v + k) = bs.contains v:=by
  rw [Bool.eq_iff_iff,List.contains_iff_mem,List.contains_iff_mem,List.mem_map]
  exact ⟨fun ⟨y,hy,e⟩=>by have : y = v:=by omega
                          exact this ▸ hy,fun h=>⟨v,h,rfl⟩⟩
theorem zOK {k : Int} {A B : TS} {E1 E2 : List Sg} {pre N : List Lc} (hE : Env2 E1 pre E2) (h : Tw k A B) (hN : NOk B.nx N) (hn : B.nx + k ≤ 1048577) (x : List UInt8) {t : List Nd} (ht : Gd (Vn B.nx) t) :
    ∃ l A' B',(Ev fun q=>anyS q N B x t = some (l,B') ∧ anyS q (pre ++ N.map (shL k)) A x (sh k t) = some (shL k l,A')) ∧ Tw k A' B' ∧ B'.nx = B.nx ∧ Gd (Vn B.nx) l.t ∧ l.any.length ≤ 4000 ∧ l.name = x:=by
  obtain ⟨u,A1,B1,e1,t1,n1,g1,_⟩:=zF1 h hn ht
  obtain ⟨bs,A2,B2,e2,t2,n2⟩:=zJj N t1 (by rw [n1];exact hN) (by omega)
  have e3:=zMB A1 hE.shut
  refine ⟨⟨x,u,(zBb u).filter fun v=>!bs.contains v⟩,A2,B2,(e1.both e3 (R:=fun q=>(zCI q B t = some (u,B1) ∧ zCI q A (sh k t) = some (sh k u,A1)) ∧ zB3 q pre A1 = some ([],A1)) fun _ a b=>⟨a,b⟩).both e2 fun q ⟨⟨p1,p2⟩,p5⟩ ⟨p3,p4⟩=>⟨?_,?_⟩,t2,by omega,g1,Nat.le_trans (List.length_filter_le _ _) (zEi _),rfl⟩
  · rw [anyS,p1];simp only;rw [p3]
  · rw [anyS,p2];simp only;rw [zMC _ _ p5 p4];simp only [shL,List.nil_append]
    rw [zNN g1 h.k0 hn,List.filter_map]
    have e : (zBb u).filter ((fun v=>!(bs.map (· + k)).contains v) ∘ (· + k)) = (zBb u).filter fun v=>!bs.contains v:=List.filter_congr fun v _=>by
      show (!(bs.map (· + k)).contains (v + k)) = !bs.contains v
      rw [zMz]
    rw [e]
end Go.Proofs.YtblomnkamngnbaaGreatDoor
namespace Go.Proofs.YtblomnkamngnbaaGreatDoor
theorem zJO (f : Int → Int) : ∀ (m : Nat) (t : List Nd),zFY m (t.map (ren f)) = ((zFY m t).1.map (List.map (ren f)),(zFY m t).2.map (ren f))
  | 0,t=>rfl
  | m + 1,[]=>rfl
  | m + 1,x :: r=>by
    have hk:=zIa f (x :: r) 0
    rw [List.map_cons] at hk ⊢
    rw [zFY,zFY,zSM,hk]
    by_cases ht : x.text = arrT
    · rw [if_pos ht,if_pos ht]
      cases h1 : zBn (x :: r) 0 with
      | nil=>rfl
      | cons a l =>
        cases l with
        | nil=>rfl
        | cons b l =>
          simp only
          have e1 : ((ren f x :: r.map (ren f)).take b.toNat).drop a.toNat = (((x :: r).take b.toNat).drop a.toNat).map (ren f):=by
            rw [List.map_drop,List.map_take,List.map_cons]
          have e2 : (ren f x :: r.map (ren f)).drop b.toNat = ((x :: r).drop b.toNat).map (ren f):=by rw [List.map_drop,List.map_cons]
          rw [e1,e2,zJO f m];rfl
    · rw [if_neg ht,if_neg ht];rfl
theorem zJP {f : Int → Int} {t : List Nd} (h : okT t = true) (h2 : okT (t.map (ren f)) = true) : zBp (t.map (ren f)) = ((zBp t).1.map (List.map (ren f)),(zBp t).2.map (ren f)):=by
  rw [zBp,if_pos (zRB.2 h2),zBp,if_pos (zRB.2 h),List.length_map,zJO]
theorem Gd.tree {V : List Int} {x : Nd} {ks : List Tr} (h : Gd V (Tr.mk x ks).fl) (hw : (Tr.mk x ks).wf) {k : Tr} (hk : k ∈ ks) : Gd V k.fl:=by
  have hm : ∀ n ∈ k.fl,n ∈ (Tr.mk x ks).fl:=fun n hn=>by
    rw [Tr.fl,zEV];exact List.mem_cons_of_mem _ (List.mem_flatten.2 ⟨k.fl,List.mem_map.2 ⟨k,hk,rfl⟩,hn⟩)
  rw [Tr.wf] at hw
  have hl:=h.len
  rw [Tr.fl_len,Tr.sz] at hl
  have:=zCw hk
  exact ⟨⟨Tr.wf_cns (zCK.1 hw.2 k hk),fun n hn=>h.ty.lf n (hm n hn),fun n hn=>h.ty.rt n (hm n hn)⟩,by rw [Tr.fl_len];omega,fun y ⟨n,hn,e⟩=>h.vs y ⟨n,hm n hn,e⟩⟩
theorem zLM {V : List Int} : ∀ (m : Nat) (T : Tr),T.sz ≤ m → T.wf → Gd V T.fl → (∀ a ∈ (zBz T).1,Gd V a) ∧ Gd V (zBz T).2
  | 0,T,h,_,_=>by have:=zBO T;omega
  | m + 1,.mk x ks,h,hw,hg=>by
    by_cases ht : x.text = arrT
    · obtain ⟨a,b,rfl⟩:=zKj hg.ty.rt hw ht
      rw [zEm ht]
      rw [Tr.sz,szL,szL,szL] at h
      have hwf:=hw
      rw [Tr.wf] at hwf
      have ga:=hg.tree hw (k:=a) (by simp)
      have gb:=hg.tree hw (k:=b) (by simp)
      have ih:=zLM m b (by omega) (zCK.1 hwf.2 b (by simp)) gb
      exact ⟨fun c hc=>by rcases List.mem_cons.1 hc with rfl | hc;exact ga;exact ih.1 c hc,ih.2⟩
    · rw [zFX ht];exact ⟨fun _ h=>(by cases h),hg⟩
theorem zQC {V : List Int} {t : List Nd} (h : Gd V t) : (∀ a ∈ (zBp t).1,Gd V a) ∧ Gd V (zBp t).2:=by
  obtain ⟨T,rfl,hw,_,_⟩:=zKi h.ck
  rw [zE6 hw h.ck]
  exact zLM _ T (Nat.le_refl _) hw h
def Cons (E : List Sg) (L : List Nd) : Prop:=∀ n ∈ L,(n.kind = 4 → (zDV E n.text).isSome = true) ∧ (n.kind = 24 → ∃ s,zDV E n.text = some s ∧ ((zBp s.ty).1.length : Int) = n.kids)
theorem Cons.kid {E : List Sg} {x : Nd} {ks : List Tr} (h : Cons E (Tr.mk x ks).fl) : Cons E (flL ks):=fun n hn=>h n (by rw [Tr.fl];exact List.mem_cons_of_mem _ hn)
theorem Cons.fst {E : List Sg} {k : Tr} {ks : List Tr} (h : Cons E (flL (k :: ks))) : Cons E k.fl ∧ Cons E (flL ks):=by
  rw [flL] at h
  exact ⟨fun n hn=>h n (List.mem_append_left _ hn),fun n hn=>h n (List.mem_append_right _ hn)⟩
theorem zOm (a b : List Nd) : zBJ (a ++ b) = zBJ a ++ zBJ b:=by unfold zBJ;rw [List.filterMap_append]
theorem zMg (x : Nd) (r : List Nd) : zBJ (x :: r) = (if x.kind = 22 then [x.text] else []) ++ zBJ r:=by
  unfold zBJ
  rw [List.filterMap_cons]
  by_cases h : x.kind = 22
  · simp [h]
  · simp [h]
theorem zSF {k n : Int} {c : List Nd} (h : Gd (Vn n) c) (h0 : 0 ≤ k) (hn : n + k ≤ 1048577) : zBp (sh k c) = ((zBp c).1.map (sh k),sh k (zBp c).2) :=
  zJP h.ok (h.sh h0 hn).ok
theorem zOC {x : Nd} {k1 : Int} {pat : Bool} (h : zE7 x k1 pat = 0) (hk : x.kind = 4 ∨ x.kind = 24) : conF x.text = true:=by
  unfold zE7 at h
  repeat' split at h
  all_goals first
    | cases h
    | skip
  rename_i _ _ _ _ h5
  cases hc : conF x.text with
  | true=>rfl
  | false=>exact absurd (.inr ⟨hk,hc⟩) h5
theorem zNi {E1 E2 : List Sg} {pre : List Lc} (hE : Env2 E1 pre E2) : ∀ (m : Nat) (t : Tr),t.sz ≤ m → t.werr true = 0 → t.wf → Cons E2 t.fl → ∀ {k : Int} {A B : TS} {N : List Lc},Tw k A B → NOk B.nx N → B.nx + 4001 * t.sz + k ≤ 1048577 →
    ∃ u M A' B',(Ev fun q=>t.patS q E2 N B = some (u,N ++ M,B') ∧ t.patS q E1 (pre ++ N.map (shL k)) A = some (sh k u,pre ++ (N ++ M).map (shL k),A')) ∧ Tw k A' B' ∧ Gd (Vn B'.nx) u ∧ NOk B'.nx (N ++ M) ∧ B.nx ≤ B'.nx ∧ B'.nx ≤ B.nx + 4001 * t.sz ∧ M.map Lc.name = zBJ t.fl
  | 0,t,h=>by have:=zBO t;omega
  | m + 1,.mk x ks,hm=>by
    intro hw hwf hC k A B N h hN hn
    have hsz : (Tr.mk x ks).sz = szL ks + 1:=by rw [Tr.sz]
    have h1:=zCv (zDC hw).1
    have h4 : 21 ≤ x.kind ∧ x.kind ≤ 24:=by simpa [patK] using h1.2.1
    have hcn:=h1.2.2
    have hB0:=h.sb.nx
    have hk0:=h.k0
    have hAn:=h.nx
    have leaf : x.kind ≠ 24 → ks = []:=fun hk=>by
      have h0 : x.kids = 0:=by
        have : cntK x.kind x.kids = true:=hcn
        unfold cntK at this
        rw [if_neg (by omega),if_neg (by omega),if_neg (by omega),if_neg (by omega),if_neg hk] at this
        simpa using this
      rw [Tr.wf] at hwf
      exact List.eq_nil_of_length_eq_zero (by omega)
    have hnx:=zIU (S:=B) (by omega)
    have hgv : Gd (Vn (zB7 B).nx) (varN B.nx):=by rw [hnx];exact zMP (by omega) (by omega)
    have hsv : sh k (varN B.nx) = varN A.nx:=by rw [zHK,hAn]
    have hc : x.kind = 21 ∨ x.kind = 22 ∨ x.kind = 23 ∨ x.kind = 24:=by omega
    rcases hc with hk | hk | hk | hk
    · have:=leaf (by omega);subst this
      refine ⟨varN B.nx,[],zB7 A,zB7 B,Ev.all fun q=>⟨?_,?_⟩,h.next (by omega),hgv,by rw [List.append_nil];exact hN.up (by omega),by omega,by omega,by simp [Tr.fl,flL,hk,zBJ]⟩
      · rw [Tr.patS,if_neg (by omega),if_pos hk,List.append_nil]
      · rw [Tr.patS,if_neg (by omega),if_pos hk,List.append_nil,hsv]
    · have:=leaf (by omega);subst this
      refine ⟨varN B.nx,[⟨x.text,varN B.nx,[]⟩],zB7 A,zB7 B,Ev.all fun q=>⟨?_,?_⟩,h.next (by omega),hgv,(hN.up (by omega)).app hgv (by simp),by omega,by omega,by simp [Tr.fl,flL,hk,zBJ]⟩
      · rw [Tr.patS,if_neg (by omega),if_neg (by omega),if_pos hk]
      · rw [Tr.patS,if_neg (by omega),if_neg (by omega),if_pos hk,List.map_append, ← hsv,List.append_assoc];rfl
    · have:=leaf (by omega);subst this
      refine ⟨zBC intT,[],A,B,Ev.all fun q=>⟨?_,?_⟩,h,zJp _,by rw [List.append_nil];exact hN,by omega,by omega,by simp [Tr.fl,flL,hk,zBJ]⟩
      · rw [Tr.patS,if_pos hk,List.append_nil]
      · rw [Tr.patS,if_pos hk,List.append_nil,zE4]
    · obtain ⟨s,hs1,hs2⟩:=(hC x (by rw [Tr.fl];exact List.mem_cons_self)).2 hk
      obtain ⟨c,A1,B1,t1,t2,t3,t4,t5,t6,f,t7⟩:=zR5 hE h (zOC (zDC hw).1 (.inr hk)) hs1 (by omega)
      have hok:=hE.ok s (List.mem_of_find?_eq_some hs1)
      have hpl : (zBp c).1.length = ks.length:=by
        rw [t7,zJP hok (by rw [← t7];exact t4.ok)]
        simp only [List.length_map]
        rw [Tr.wf] at hwf;omega
      obtain ⟨g1,g2⟩:=zQC t4
      have hpsh:=zSF t4 hk0 (by omega)
      have hwk:=(zDC hw).2
      have key : ∀ (ks : List Tr) (i : Nat) (ar : List (List Nd)),szL ks ≤ m → zC6 (decide (x.kind = 10)) true ks i = 0 → wfL ks → Cons E2 (flL ks) → ∀ {A B : TS} {N : List Lc},Tw k A B → NOk B.nx N → B.nx + 4001 * szL ks + k ≤ 1048577 → ar.length = ks.length → (∀ a ∈ ar,Gd (Vn B.nx) a) →
          ∃ M A' B',(Ev fun q=>patL q E2 ar ks N B = some (N ++ M,B') ∧ patL q E1 (ar.map (sh k)) ks (pre ++ N.map (shL k)) A = some (pre ++ (N ++ M).map (shL k),A')) ∧ Tw k A' B' ∧ NOk B'.nx (N ++ M) ∧ B.nx ≤ B'.nx ∧ B'.nx ≤ B.nx + 4001 * szL ks ∧ M.map Lc.name = zBJ (flL ks):=by
        intro ks
        induction ks with
        | nil =>
          intro i ar _ _ _ _ A B N h hN _ hl _
          have : ar = []:=List.eq_nil_of_length_eq_zero hl
          subst this
          exact ⟨[],A,B,Ev.all fun q=>⟨by rw [patL.eq_1,List.append_nil],by rw [patL.eq_1,List.append_nil]⟩,h,by rw [List.append_nil];exact hN,Int.le_refl _,by omega,rfl⟩
        | cons p ks ihk =>
          intro i ar hs hw hwf hC A B N h hN hn hl hg
          rw [szL] at hs hn
          have hpp:=zBO p
          rw [zC6] at hw
          split at hw
          · contradiction
          rename_i hw1
          rw [wfL] at hwf
          obtain ⟨hC1,hC2⟩:=hC.fst
          cases ar with
          | nil=>simp at hl
          | cons a ar =>
            obtain ⟨u,M,A1,B1,e1,r1,r2,r3,r4,r5,r6⟩:=zNi hE m p (by omega) (by simpa using hw1) hwf.1 hC1 h hN (by omega)
            obtain ⟨A2,B2,e2,q1,q2⟩:=zDD r1 (by omega) r2 ((hg a List.mem_cons_self).up r4)
            obtain ⟨M2,A3,B3,e3,s1,s2,s3,s4,s5⟩:=ihk (i + 1) ar (by omega) hw hwf.2 hC2 q1 (by rw [q2];exact r3) (by rw [q2];omega) (by simpa using hl) (by rw [q2];exact fun b hb=>(hg b (List.mem_cons_of_mem _ hb)).up r4)
            refine ⟨M ++ M2,A3,B3,(e1.and e2).both e3 fun q ⟨⟨p1,p2⟩,p3,p4⟩ ⟨p5,p6⟩=>⟨?_,?_⟩,s1,by rw [← List.append_assoc];exact s2,by omega,by rw [szL];omega,by rw [List.map_append,r6,s5,flL,zOm]⟩
            · rw [patL,p1];simp only;rw [p3];simp only;rw [p5,List.append_assoc]
            · rw [List.map_cons,patL,p2];simp only;rw [p4];simp only;rw [p6,List.append_assoc]
      obtain ⟨M,A2,B2,e2,s1,s2,s3,s4,s5⟩:=key ks 0 (zBp c).1 (by omega) hwk (by rw [Tr.wf] at hwf;exact hwf.2) hC.kid t3 (hN.up t5) (by rw [hsz] at hn;omega) hpl g1
      refine ⟨(zBp c).2,M,A2,B2,e2.mono fun q ⟨p1,p2⟩=>⟨?_,?_⟩,s1,g2.up s3,s2,by omega,by rw [hsz];omega,by rw [s5,Tr.fl,zMg,if_neg (by omega)];rfl⟩
      · rw [Tr.patS,if_neg (by omega),if_neg (by omega),if_neg (by omega),t1];simp only;rw [p1]
      · rw [Tr.patS,if_neg (by omega),if_neg (by omega),if_neg (by omega),t2];simp only;rw [hpsh];simp only;rw [p2]
end Go.Proofs.YtblomnkamngnbaaGreatDoor
namespace Go.Proofs.YtblomnkamngnbaaGreatDoor
def bndK (k : Int) (tx : List UInt8) (pv : List (List UInt8)) (i : Nat) : List (List UInt8) :=
  if k = 5 ∨ k = 8 ∨ ((k = 7 ∨ k = 12) ∧ i = 1) then [tx] else if k = 10 ∧ 0 < i then pv else []
mutual
def Tr.fr (z : List UInt8) : Tr → Prop
  | .mk x ks=>if x.kind = 3 then x.text = z else frL z x.kind x.text [] ks 0
def frL (z : List UInt8) (k : Int) (tx : List UInt8) : List (List UInt8) → List Tr → Nat → Prop
  | _,[],_=>False
  | pv,t :: r,i=>if k = 10 ∧ i % 2 = 1 then frL z k tx (zBJ t.fl) r (i + 1) else (t.fr z ∧ z ∉ bndK k tx pv i) ∨ frL z k tx pv r (i + 1)
end
theorem zSZ {k : Int} {tx : List UInt8} {pv : List (List UInt8)} {i : Nat} {S : Bag} {z : List UInt8} : lkB (bagK k tx pv i S) z = 0 ↔ lkB S z = 0 ∧ z ∉ bndK k tx pv i:=by
  unfold bagK bndK
  split
  · rw [zE9,Nat.add_eq_zero_iff,List.count_eq_zero]
  · split
    · rw [zE9,Nat.add_eq_zero_iff,List.count_eq_zero]
    · simp
mutual
theorem Tr.free_mem (z : List UInt8) : ∀ (t : Tr) (S : Bag) (F : List (List UInt8)),z ∈ t.free S F ↔ z ∈ F ∨ (t.fr z ∧ lkB S z = 0)
  | .mk x ks,S,F=>by
    rw [Tr.free,Tr.fr]
    by_cases hk : x.kind = 3
    · rw [if_pos hk,if_pos hk]
      split
      · rename_i h
        rw [List.mem_append,List.mem_singleton]
        constructor
        · rintro (h1 | h1)
          · exact .inl h1
          · subst h1;exact .inr ⟨rfl,h.1⟩
        · rintro (h1 | ⟨h1,_⟩)
          · exact .inl h1
          · exact .inr h1.symm
      · rename_i h
        constructor
        · exact .inl
        · rintro (h1 | ⟨h1,h2⟩)
          · exact h1
          · subst h1
            exact Classical.byContradiction fun c=>h ⟨h2,c⟩
    · rw [if_neg hk,if_neg hk]
      exact zIo z x.kind x.text S [] ks 0 F
theorem zIo (z : List UInt8) (k : Int) (tx : List UInt8) (S : Bag) : ∀ (pv : List (List UInt8)) (ks : List Tr) (i : Nat) (F : List (List UInt8)),z ∈ zCX k tx S pv ks i F ↔ z ∈ F ∨ (frL z k tx pv ks i ∧ lkB S z = 0)
  | pv,[],i,F=>by rw [zCX,frL];simp
  | pv,t :: r,i,F=>by
    rw [zCX,frL]
    by_cases h : k = 10 ∧ i % 2 = 1
    · rw [if_pos h,if_pos h];exact zIo z k tx S _ r (i + 1) F
    · rw [if_neg h,if_neg h,zIo z k tx S pv r (i + 1),Tr.free_mem z t,zSZ]
      constructor
      · rintro ((h1 | ⟨h1,h2,h3⟩) | ⟨h1,h2⟩)
        · exact .inl h1
        · exact .inr ⟨.inl ⟨h1,h3⟩,h2⟩
        · exact .inr ⟨.inr h1,h2⟩
      · rintro (h1 | ⟨⟨h1,h2⟩ | h1,h3⟩)
        · exact .inl (.inl h1)
        · exact .inl (.inr ⟨h1,h3,h2⟩)
        · exact .inr ⟨h1,h3⟩
end
def Fre (E : List Sg) (N : List Lc) (p : List UInt8 → Prop) : Prop:=∀ z,p z → (∃ l ∈ N,l.name = z) ∨ (zDV E z).isSome = true
theorem Fre.bind {E : List Sg} {N M : List Lc} {p q : List UInt8 → Prop} (h : Fre E N q) (hp : ∀ z,p z → q z ∨ ∃ l ∈ M,l.name = z) : Fre E (N ++ M) p:=fun z hz=>by
  rcases hp z hz with h1 | ⟨l,h1,h2⟩
  · rcases h z h1 with ⟨l,h2,h3⟩ | h2
    · exact .inl ⟨l,List.mem_append_left _ h2,h3⟩
    · exact .inr h2
  · exact .inl ⟨l,List.mem_append_right _ h1,h2⟩
theorem Fre.same {E : List Sg} {N : List Lc} {p q : List UInt8 → Prop} (h : Fre E N q) (hp : ∀ z,p z → q z) : Fre E N p:=fun z hz=>h z (hp z hz)
theorem NOk.lcs {n : Int} {N : List Lc} (h : NOk n N) : LcsOk N:=fun l hl=>⟨by have:=(h l hl).1.len;omega,(h l hl).2⟩
def EB (E1 E2 : List Sg) (pre : List Lc) (t : Tr) (k : Int) (A B : TS) (N : List Lc) : Prop :=
  ∃ u A' B',(Ev fun q=>t.expS q E2 N B = some (u,B') ∧ t.expS q E1 (pre ++ N.map (shL k)) A = some (sh k u,A')) ∧ Tw k A' B' ∧ Gd (Vn B'.nx) u ∧ B.nx ≤ B'.nx ∧ B'.nx ≤ B.nx + 4002 * t.sz ∧ u.length ≤ 2 * t.sz + 1
theorem EB.mk {E1 E2 : List Sg} {pre : List Lc} {t : Tr} {k : Int} {A B : TS} {N : List Lc} (hE : Env2 E1 pre E2) (hN : NOk B.nx N) (hwf : t.wf) (hw : t.werr false = 0) (hz : t.sz ≤ 100)
    (h : ∃ u A' B',(Ev fun q=>t.expS q E2 N B = some (u,B') ∧ t.expS q E1 (pre ++ N.map (shL k)) A = some (sh k u,A')) ∧ Tw k A' B' ∧ (B.nx ≤ B'.nx → Gd (Vn B'.nx) u)) : EB E1 E2 pre t k A B N:=by
  obtain ⟨u,A',B',e,h1,h2⟩:=h
  obtain ⟨q,p1,_⟩:=e.get
  obtain ⟨b1,b2⟩:=zBi (fun s hs=>by have:=(zDJ (hE.ok s hs)).1;omega) t.sz t (Nat.le_refl _) hwf hw (by omega) hN.lcs p1
  exact ⟨u,A',B',e,h1,h2 b1.lo,b1.lo,by have:=b1.hi;omega,b2⟩
theorem zH2 {E1 E2 : List Sg} {pre : List Lc} (hE : Env2 E1 pre E2) : ∀ (m : Nat) (t : Tr),t.sz ≤ m → t.wf → t.werr false = 0 → t.sz ≤ 100 → Cons E2 t.fl → ∀ {k : Int} {A B : TS} {N : List Lc},Tw k A B → NOk B.nx N → Fre E2 N (fun z=>t.fr z) → B.nx + 4002 * t.sz + k ≤ 1048577 → EB E1 E2 pre t k A B N
  | 0,t,h=>by have:=zBO t;omega
  | m + 1,.mk x ks,hm=>by
    intro hwf hw hz hC k A B N h hN hF hn
    refine EB.mk hE hN hwf hw hz ?_
    have hsz : (Tr.mk x ks).sz = szL ks + 1:=by rw [Tr.sz]
    have her:=h.er
    have hB0:=h.sb.nx
    have hk0:=h.k0
    have hAn:=h.nx
    by_cases h0 : B.er = 0
    case neg =>
      exact ⟨zBC intT,A,B,Ev.all fun q=>⟨zIr _ h0,by rw [zE4];exact zIr _ (by omega)⟩,h,fun _=>zJp _⟩
    have h0' : A.er = 0:=by omega
    obtain ⟨hkk,hcn⟩:=zC0 hw
    have hwk:=(zDC hw).2
    have hwf2:=zCK.1 (by rw [Tr.wf] at hwf;exact hwf.2)
    have hnx:=zIU (S:=B) (by omega)
    have hgv : ∀ n,B.nx < n → n ≤ 1048577 → Gd (Vn n) (varN B.nx):=fun n h1 h2=>zMP ⟨hB0,h1⟩ h2
    have hsv : sh k (varN B.nx) = varN A.nx:=by rw [zHK,hAn]
    have htn:=h.next (by omega)
    have hKC:=hC.kid
    have kid : ∀ (t : Tr),t ∈ ks → t.werr false = 0 → ∀ {A B : TS} {N : List Lc},Tw k A B → NOk B.nx N → Fre E2 N (fun z=>t.fr z) → B.nx + 4002 * t.sz + k ≤ 1048577 → EB E1 E2 pre t k A B N:=fun t ht hw {A B N} h1 h2 h3 h4=>by
      have hs:=zCw ht
      refine zH2 hE m t (by omega) (hwf2 t ht) hw (by omega) (fun n hn=>hKC n ?_) h1 h2 h3 h4
      rw [zEV];exact List.mem_flatten.2 ⟨t.fl,List.mem_map.2 ⟨t,ht,rfl⟩,hn⟩
    have snoc : ∀ (N : List Lc) (l : Lc),pre ++ (N ++ [l]).map (shL k) = (pre ++ N.map (shL k)) ++ [shL k l]:=fun N l=>by rw [List.map_append, ← List.append_assoc];rfl
    have hfr : Fre E2 N fun z=>if x.kind = 3 then x.text = z else frL z x.kind x.text [] ks 0:=hF.same fun z hz=>by rw [Tr.fr];exact hz
    have hc : x.kind = 1 ∨ x.kind = 2 ∨ (x.kind = 3 ∨ x.kind = 4) ∨ x.kind = 5 ∨ x.kind = 6 ∨ x.kind = 7 ∨ x.kind = 8 ∨ x.kind = 9 ∨ x.kind = 10 ∨ x.kind = 11 ∨ x.kind = 12:=by omega
    rcases hc with hk | hk | hk | hk | hk | hk | hk | hk | hk | hk | hk
    · refine ⟨zBC intT,A,B,Ev.all fun q=>⟨?_,?_⟩,h,fun _=>zJp _⟩
      · rw [Tr.expS,if_neg (by omega),if_pos hk]
      · rw [Tr.expS,if_neg (by omega),if_pos hk,zE4]
    · refine ⟨zBC texT,A,B,Ev.all fun q=>⟨?_,?_⟩,h,fun _=>zWM _⟩
      · rw [Tr.expS,if_neg (by omega),if_neg (by omega),if_pos hk]
      · rw [Tr.expS,if_neg (by omega),if_neg (by omega),if_pos hk,zE4]
    · have hz : (∃ l ∈ N,l.name = x.text) ∨ (zDV E2 x.text).isSome = true:=by
        rcases hk with hk | hk
        · exact hfr x.text (by show (if x.kind = 3 then x.text = x.text else _);rw [if_pos hk])
        · exact .inr ((hC x (by rw [Tr.fl];exact List.mem_cons_self)).1 hk)
      obtain ⟨u,A1,B1,t1,t2,t3,t4,t5,t6⟩:=zOn hE htn (hN.up (by omega)) hz (by omega)
      obtain ⟨A2,B2,e1,r1,r2⟩:=zDD t3 (by omega) (hgv _ (by omega) (by omega)) t4
      rw [hsv] at e1
      refine ⟨varN B.nx,A2,B2,e1.mono fun q ⟨p1,p2⟩=>⟨?_,?_⟩,r1,fun _=>hgv _ (by omega) (by omega)⟩
      · rw [Tr.expS,if_neg (by omega),if_neg (by omega),if_neg (by omega),if_pos hk,t1];simp only;rw [p1]
      · rw [Tr.expS,if_neg (by omega),if_neg (by omega),if_neg (by omega),if_pos hk,t2];simp only;rw [p2,hsv]
    all_goals rw [hk] at hcn
    all_goals rw [hk] at hfr
    all_goals simp only [if_neg (show ¬ ((5 : Int) = 3) by decide),if_neg (show ¬ ((6 : Int) = 3) by decide),if_neg (show ¬ ((7 : Int) = 3) by decide),if_neg (show ¬ ((8 : Int) = 3) by decide),if_neg (show ¬ ((9 : Int) = 3) by decide),if_neg (show ¬ ((10 : Int) = 3) by decide),if_neg (show ¬ ((11 : Int) = 3) by decide),if_neg (show ¬ ((12 : Int) = 3) by decide)] at hfr
    · obtain ⟨b,rfl⟩:=zJS hwf (by simpa [cntK] using hcn)
      rw [szL,szL] at hsz
      have w1:=zBB (j:=0) hwk rfl
      have hlv : Gd (Vn (zB7 B).nx) (⟨x.text,varN B.nx,[]⟩ : Lc).t:=hgv _ (by omega) (by omega)
      obtain ⟨u,A1,B1,e1,r1,r2,r3,r4,r5⟩:=kid b (by simp) (by simpa [hk] using w1) htn ((hN.up (by omega)).app hlv (by simp)) (hfr.bind (M:=[⟨x.text,varN B.nx,[]⟩]) fun z hz=>by
        simp only [frL,bndK]
        by_cases hzx : x.text = z
        · exact .inr ⟨_,List.mem_singleton_self _,hzx⟩
        · exact .inl (.inl ⟨hz,by simpa using fun e=>hzx e.symm⟩)) (by omega)
      refine ⟨zEX (varN B.nx) u,A1,B1,e1.mono fun q ⟨p1,p2⟩=>⟨?_,?_⟩,r1,fun _=>zOQ (hgv _ (by omega) (by omega)) r2 (by simp [varN];omega)⟩
      · rw [Tr.expS,if_neg (by omega),if_neg (by omega),if_neg (by omega),if_neg (by omega),expK,if_pos hk,p1]
      · rw [snoc] at p2
        rw [Tr.expS,if_neg (by omega),if_neg (by omega),if_neg (by omega),if_neg (by omega),expK,if_pos hk, ← hsv]
        rw [show (⟨x.text,sh k (varN B.nx),[]⟩ : Lc) = shL k ⟨x.text,varN B.nx,[]⟩ from rfl,p2]
        simp only [zNY]
    · obtain ⟨a,b,rfl⟩:=zFM hwf (by simpa [cntK] using hcn)
      rw [szL,szL,szL] at hsz
      have w1:=zBB (j:=0) hwk rfl
      have w2:=zBB (j:=1) hwk rfl
      obtain ⟨u,A1,B1,e1,r1,r2,r3,r4,r5⟩:=kid a (by simp) (by simpa [hk] using w1) h hN (hfr.same fun z hz=>by
        simp only [frL,bndK];exact .inl ⟨hz,by simp⟩) (by omega)
      obtain ⟨v,A2,B2,e2,s1,s2,s3,s4,s5⟩:=kid b (by simp) (by simpa [hk] using w2) r1 (hN.up r3) (hfr.same fun z hz=>by
        simp only [frL,bndK];exact .inr (.inl ⟨hz,by simp⟩)) (by omega)
      have hnx2:=zIU (S:=B2) (by omega)
      have ht2:=s1.next (by omega)
      have hg2 : Gd (Vn (zB7 B2).nx) (varN B2.nx):=zMP ⟨s1.sb.nx,by omega⟩ (by omega)
      have hsv2 : sh k (varN B2.nx) = varN A2.nx:=by rw [zHK,s1.nx]
      obtain ⟨A3,B3,e3,q1,q2⟩:=zDD ht2 (by omega) ((r2.up s3).up (show B2.nx ≤ (zB7 B2).nx by omega)) (zOQ (s2.up (by omega)) hg2 (by simp [varN];omega))
      rw [zNY,hsv2] at e3
      refine ⟨varN B2.nx,A3,B3,(e1.and e2).both e3 fun q ⟨⟨p1,p2⟩,p3,p4⟩ ⟨p5,p6⟩=>⟨?_,?_⟩,q1,fun _=>by rw [q2];exact hg2⟩
      · rw [Tr.expS,if_neg (by omega),if_neg (by omega),if_neg (by omega),if_neg (by omega),expK,if_neg (by omega),if_neg (by omega),p1];simp only;rw [if_neg (by omega),if_pos hk,exp1,p3];simp only;rw [p5]
      · rw [Tr.expS,if_neg (by omega),if_neg (by omega),if_neg (by omega),if_neg (by omega),expK,if_neg (by omega),if_neg (by omega),p2];simp only;rw [if_neg (by omega),if_pos hk,exp1,p4];simp only;rw [p6,hsv2]
    · obtain ⟨a,b,rfl⟩:=zFM hwf (by simpa [cntK] using hcn)
      rw [szL,szL,szL] at hsz
      have w1:=zBB (j:=0) hwk rfl
      have w2:=zBB (j:=1) hwk rfl
      obtain ⟨u,A1,B1,e1,r1,r2,r3,r4,r5⟩:=kid a (by simp) (by simpa [hk] using w1) h hN (hfr.same fun z hz=>by
        simp only [frL,bndK];exact .inl ⟨hz,by simp⟩) (by omega)
      have hfb : ∀ l : Lc,l.name = x.text → Fre E2 (N ++ [l]) fun z=>b.fr z:=fun l hl=>hfr.bind fun z hz=>by
        simp only [frL,bndK]
        by_cases hzx : x.text = z
        · exact .inr ⟨l,by simp,by rw [hl];exact hzx⟩
        · exact .inl (.inr (.inl ⟨hz,by simpa using fun e=>hzx e.symm⟩))
      by_cases hv : a.val = true
      · obtain ⟨l,A2,B2,e2,s1,s2,s3,s4,s5⟩:=zOK hE r1 (hN.up r3) (by omega) x.text r2
        obtain ⟨v,A3,B3,e3,q1,q2,q3,q4,q5⟩:=kid b (by simp) (by simpa [hk] using w2) s1 (((hN.up r3).app s3 s4).up (by omega)) (hfb l s5) (by omega)
        refine ⟨v,A3,B3,(e1.and e2).both e3 fun q ⟨⟨p1,p2⟩,p3,p4⟩ ⟨p5,p6⟩=>⟨?_,?_⟩,q1,fun _=>q2⟩
        · rw [Tr.expS,if_neg (by omega),if_neg (by omega),if_neg (by omega),if_neg (by omega),expK,if_neg (by omega),if_neg (by omega),p1];simp only;rw [if_pos hk,if_pos hv,p3];simp only;rw [exp1,p5]
        · rw [snoc] at p6
          rw [Tr.expS,if_neg (by omega),if_neg (by omega),if_neg (by omega),if_neg (by omega),expK,if_neg (by omega),if_neg (by omega),p2];simp only;rw [if_pos hk,if_pos hv,p4];simp only;rw [exp1,p6]
      · have hgl : Gd (Vn B1.nx) (⟨x.text,u,[]⟩ : Lc).t:=r2
        obtain ⟨v,A3,B3,e3,q1,q2,q3,q4,q5⟩:=kid b (by simp) (by simpa [hk] using w2) r1 ((hN.up r3).app hgl (by simp)) (hfb _ rfl) (by omega)
        refine ⟨v,A3,B3,e1.both e3 fun q ⟨p1,p2⟩ ⟨p5,p6⟩=>⟨?_,?_⟩,q1,fun _=>q2⟩
        · rw [Tr.expS,if_neg (by omega),if_neg (by omega),if_neg (by omega),if_neg (by omega),expK,if_neg (by omega),if_neg (by omega),p1];simp only;rw [if_pos hk,if_neg hv,exp1,p5]
        · rw [snoc] at p6
          rw [Tr.expS,if_neg (by omega),if_neg (by omega),if_neg (by omega),if_neg (by omega),expK,if_neg (by omega),if_neg (by omega),p2];simp only;rw [if_pos hk,if_neg hv,exp1];exact p6
    · obtain ⟨a,b,rfl⟩:=zFM hwf (by simpa [cntK] using hcn)
      rw [szL,szL,szL] at hsz
      have w1:=zBB (j:=0) hwk rfl
      have w2:=zBB (j:=1) hwk rfl
      have hlv : Gd (Vn (zB7 B).nx) (⟨x.text,varN B.nx,[]⟩ : Lc).t:=hgv _ (by omega) (by omega)
      obtain ⟨u,A1,B1,e1,r1,r2,r3,r4,r5⟩:=kid a (by simp) (by simpa [hk] using w1) htn ((hN.up (by omega)).app hlv (by simp)) (hfr.bind (M:=[⟨x.text,varN B.nx,[]⟩]) fun z hz=>by
        simp only [frL,bndK]
        by_cases hzx : x.text = z
        · exact .inr ⟨_,List.mem_singleton_self _,hzx⟩
        · exact .inl (.inl ⟨hz,by simpa using fun e=>hzx e.symm⟩)) (by omega)
      have hgb : Gd (Vn B1.nx) (varN B.nx):=hgv _ (by omega) (by omega)
      obtain ⟨A2,B2,e2,s1,s2⟩:=zDD r1 (by omega) hgb r2
      obtain ⟨l,A3,B3,e3,q1,q2,q3,q4,q5⟩:=zOK hE s1 (hN.up (show B.nx ≤ B2.nx by omega)) (by omega) x.text (hgb.up (by omega))
      obtain ⟨v,A4,B4,e4,o1,o2,o3,o4,o5⟩:=kid b (by simp) (by simpa [hk] using w2) q1 (((hN.up (show B.nx ≤ B2.nx by omega)).app q3 q4).up (by omega)) (hfr.bind (M:=[l]) fun z hz=>by
        simp only [frL,bndK]
        by_cases hzx : x.text = z
        · exact .inr ⟨l,by simp,by rw [q5];exact hzx⟩
        · exact .inl (.inr (.inl ⟨hz,by simpa using fun e=>hzx e.symm⟩))) (by omega)
      rw [hsv] at e2 e3
      refine ⟨v,A4,B4,((e1.and e2).and e3).both e4 fun q ⟨⟨⟨p1,p2⟩,p3,p4⟩,p5,p6⟩ ⟨p7,p8⟩=>⟨?_,?_⟩,o1,fun _=>o2⟩
      · rw [Tr.expS,if_neg (by omega),if_neg (by omega),if_neg (by omega),if_neg (by omega),expK,if_neg (by omega),if_pos hk,p1];simp only;rw [p3];simp only;rw [p5];simp only;rw [exp1,p7]
      · rw [snoc] at p2 p8
        rw [Tr.expS,if_neg (by omega),if_neg (by omega),if_neg (by omega),if_neg (by omega),expK,if_neg (by omega),if_pos hk]
        rw [show (⟨x.text,varN A.nx,[]⟩ : Lc) = shL k ⟨x.text,varN B.nx,[]⟩ by rw [← hsv];rfl,p2];simp only;rw [p4];simp only;rw [p6];simp only;rw [exp1,p8]
    · obtain ⟨a,b,c,rfl⟩:=zQR hwf (by simpa [cntK] using hcn)
      rw [szL,szL,szL,szL] at hsz
      have w1:=zBB (j:=0) hwk rfl
      have w2:=zBB (j:=1) hwk rfl
      have w3:=zBB (j:=2) hwk rfl
      obtain ⟨u,A1,B1,e1,r1,r2,r3,r4,r5⟩:=kid a (by simp) (by simpa [hk] using w1) h hN (hfr.same fun z hz=>by
        simp only [frL,bndK];exact .inl ⟨hz,by simp⟩) (by omega)
      obtain ⟨A2,B2,e2,s1,s2⟩:=zDD r1 (by omega) r2 (zJp _)
      obtain ⟨v,A3,B3,e3,q1,q2,q3,q4,q5⟩:=kid b (by simp) (by simpa [hk] using w2) s1 (hN.up (by omega)) (hfr.same fun z hz=>by
        simp only [frL,bndK];exact .inr (.inl ⟨hz,by simp⟩)) (by omega)
      obtain ⟨w,A4,B4,e4,o1,o2,o3,o4,o5⟩:=kid c (by simp) (by simpa [hk] using w3) q1 (hN.up (by omega)) (hfr.same fun z hz=>by
        simp only [frL,bndK];exact .inr (.inr (.inl ⟨hz,by simp⟩))) (by omega)
      obtain ⟨A5,B5,e5,n1,n2⟩:=zDD o1 (by omega) (q2.up o3) o2
      rw [zE4] at e2
      refine ⟨v,A5,B5,(((e1.and e2).and e3).and e4).both e5 fun q ⟨⟨⟨⟨p1,p2⟩,p3,p4⟩,p5,p6⟩,p7,p8⟩ ⟨p9,p10⟩=>⟨?_,?_⟩,n1,fun _=>q2.up (by omega)⟩
      · rw [Tr.expS,if_neg (by omega),if_neg (by omega),if_neg (by omega),if_neg (by omega),expK,if_neg (by omega),if_neg (by omega),p1];simp only;rw [if_neg (by omega),if_neg (by omega),if_pos hk,p3];simp only;rw [expI,p5];simp only;rw [exp1,p7];simp only;rw [p9]
      · rw [Tr.expS,if_neg (by omega),if_neg (by omega),if_neg (by omega),if_neg (by omega),expK,if_neg (by omega),if_neg (by omega),p2];simp only;rw [if_neg (by omega),if_neg (by omega),if_pos hk,p4];simp only;rw [expI,p6];simp only;rw [exp1,p8];simp only;rw [p10]
    · have hcn2 : 3 ≤ x.kids ∧ x.kids % 2 = 1:=by simpa [cntK] using hcn
      obtain ⟨a,ks,rfl⟩ : ∃ a r,ks = a :: r:=by
        cases ks with
        | nil=>rw [Tr.wf] at hwf;simp at hwf;omega
        | cons a r=>exact ⟨a,r,rfl⟩
      have hodd : ks.length % 2 = 0:=by rw [Tr.wf] at hwf;have:=hwf.1;simp only [List.length_cons] at this;omega
      rw [szL] at hsz
      have w1:=zBB (j:=0) hwk rfl
      obtain ⟨u,A1,B1,e1,r1,r2,r3,r4,r5⟩:=kid a (by simp) (by simpa [hk] using w1) h hN (hfr.same fun z hz=>by
        rw [frL,if_neg (by omega)];exact .inl ⟨hz,by simp [bndK]⟩) (by omega)
      have hnx2:=zIU (S:=B1) (by omega)
      have ht2:=r1.next (by omega)
      have hg2 : ∀ n,(zB7 B1).nx ≤ n → n ≤ 1048577 → Gd (Vn n) (varN B1.nx):=fun n h1 h2=>zMP ⟨r1.sb.nx,by omega⟩ h2
      have hsv2 : sh k (varN B1.nx) = varN A1.nx:=by rw [zHK,r1.nx]
      have hwk2 : zC6 (decide (x.kind = 10)) false ks 1 = 0:=by
        rw [zC6] at hwk
        split at hwk
        · contradiction
        exact hwk
      have key : ∀ (l : Nat) (ks : List Tr) (i : Nat) (pv : List (List UInt8)),ks.length ≤ l → i % 2 = 1 → ks.length % 2 = 0 → szL ks ≤ m → szL ks ≤ 100 → wfL ks → Cons E2 (flL ks) → zC6 (decide (x.kind = 10)) false ks i = 0 → ∀ {A B : TS},Tw k A B → NOk B.nx N → Gd (Vn B.nx) u → Gd (Vn B.nx) (varN B1.nx) → Fre E2 N (fun z=>frL z 10 x.text pv ks i) → B.nx + 4002 * szL ks + k ≤ 1048577 →
          ∃ A' B',(Ev fun q=>expM q E2 u (varN B1.nx) ks N B = some B' ∧ expM q E1 (sh k u) (varN A1.nx) ks (pre ++ N.map (shL k)) A = some A') ∧ Tw k A' B' ∧ B.nx ≤ B'.nx ∧ B'.nx ≤ B.nx + 4002 * szL ks:=by
        intro l
        induction l with
        | zero =>
          intro ks i pv hl _ _ _ _ _ _ _ A B h _ _ _ _ _
          have : ks = []:=List.eq_nil_of_length_eq_zero (by omega)
          subst this
          exact ⟨A,B,Ev.all fun q=>⟨by rw [expM.eq_1],by rw [expM.eq_1]⟩,h,Int.le_refl _,by omega⟩
        | succ l ihl =>
          intro ks i pv hl hi ho hs hs2 hwf hC hw A B h hN hgu hgt hF hn
          match ks,hl,ho,hs,hs2,hwf,hC,hw,hF,hn with
          | [],_,_,_,_,_,_,_,_,_=>exact ⟨A,B,Ev.all fun q=>⟨by rw [expM.eq_1],by rw [expM.eq_1]⟩,h,Int.le_refl _,by omega⟩
          | [p],_,ho,_,_,_,_,_,_,_=>simp at ho
          | p :: b :: ks,hl,ho,hs,hs2,hwf,hC,hw,hF,hn =>
            rw [szL,szL] at hs hs2 hn
            rw [wfL,wfL] at hwf
            obtain ⟨hC1,hC2⟩:=hC.fst
            obtain ⟨hC3,hC4⟩:=hC2.fst
            have v1:=zBB (j:=0) hw rfl
            have v2:=zBB (j:=1) hw rfl
            have v3 : zC6 (decide (x.kind = 10)) false ks (i + 1 + 1) = 0:=by
              rw [zC6] at hw
              split at hw
              · contradiction
              rw [zC6] at hw
              split at hw
              · contradiction
              exact hw
            have e1 : (false || (decide (x.kind = 10) && decide ((i + 0) % 2 = 1))) = true:=by simp [hk];omega
            have e2 : (false || (decide (x.kind = 10) && decide ((i + 1) % 2 = 1))) = false:=by simp [hk];omega
            rw [e1] at v1
            rw [e2] at v2
            have hpp:=zBO p
            have hkp:=zBO b
            have hF2 : Fre E2 N fun z=>(b.fr z ∧ z ∉ zBJ p.fl) ∨ frL z 10 x.text (zBJ p.fl) ks (i + 1 + 1):=hF.same fun z hz=>by
              rw [frL,if_pos ⟨rfl,hi⟩,frL,if_neg (by omega)]
              rcases hz with ⟨h1,h2⟩ | h1
              · exact .inl ⟨h1,by simpa [bndK] using h2⟩
              · exact .inr h1
            obtain ⟨w,M,A2,B2,e3,s1,s2,s3,s4,s5,s6⟩:=zNi hE p.sz p (Nat.le_refl _) v1 hwf.1 hC1 h hN (by omega)
            obtain ⟨A3,B3,e4,q1,q2⟩:=zDD s1 (by omega) s2 (hgu.up s4)
            obtain ⟨v,A4,B4,e5,o1,o2,o3,o4,o5⟩:=zH2 hE m b (by omega) hwf.2.1 v2 (by omega) hC3 q1 (by rw [q2];exact s3) (hF2.bind (M:=M) fun z hz=>by
              by_cases hzn : z ∈ zBJ p.fl
              · rw [← s6] at hzn
                obtain ⟨l,h1,h2⟩:=List.mem_map.1 hzn
                exact .inr ⟨l,h1,h2⟩
              · exact .inl (.inl ⟨hz,hzn⟩)) (by omega)
            obtain ⟨A5,B5,e6,n1,n2⟩:=zDD o1 (by omega) o2 (hgt.up (by omega))
            rw [hsv2] at e6
            obtain ⟨A6,B6,e7,c1,c2,c3⟩:=ihl ks (i + 1 + 1) (zBJ p.fl) (by simp at hl;omega) (by omega) (by simp at ho;omega) (by omega) (by omega) hwf.2.2 hC4 v3 n1 (hN.up (by omega)) (hgu.up (by omega)) (hgt.up (by omega)) (hF2.same fun z hz=>.inr hz) (by omega)
            refine ⟨A6,B6,(((e3.and e4).and e5).and e6).both e7 fun q ⟨⟨⟨⟨p1,p2⟩,p3,p4⟩,p5,p6⟩,p7,p8⟩ ⟨p9,p10⟩=>⟨?_,?_⟩,c1,by omega,by rw [szL,szL];omega⟩
            · rw [expM,p1];simp only;rw [p3];simp only;rw [expN,p5];simp only;rw [p7];simp only;rw [p9]
            · rw [expM,p2];simp only;rw [p4];simp only;rw [expN,p6];simp only;rw [p8];simp only;rw [p10]
      obtain ⟨A2,B2,e2,s1,s2,s3⟩:=key _ ks 1 [] (Nat.le_refl _) rfl hodd (by omega) (by omega) (by rw [Tr.wf,wfL] at hwf;exact hwf.2.2) hKC.fst.2 hwk2 ht2 (hN.up (by omega)) (r2.up (by omega)) (hg2 _ (Int.le_refl _) (by omega)) (hfr.same fun z hz=>by
        rw [frL,if_neg (by omega)];exact .inr hz) (by omega)
      refine ⟨varN B1.nx,A2,B2,e1.both e2 fun q ⟨p1,p2⟩ ⟨p3,p4⟩=>⟨?_,?_⟩,s1,fun _=>hg2 _ s2 (by omega)⟩
      · rw [Tr.expS,if_neg (by omega),if_neg (by omega),if_neg (by omega),if_neg (by omega),expK,if_neg (by omega),if_neg (by omega),p1];simp only;rw [if_neg (by omega),if_neg (by omega),if_neg (by omega),if_neg (by omega),if_neg (by omega),p3]
      · rw [Tr.expS,if_neg (by omega),if_neg (by omega),if_neg (by omega),if_neg (by omega),expK,if_neg (by omega),if_neg (by omega),p2];simp only;rw [if_neg (by omega),if_neg (by omega),if_neg (by omega),if_neg (by omega),if_neg (by omega),p4,hsv2]
    · obtain ⟨a,rfl⟩:=zJS hwf (by simpa [cntK] using hcn)
      rw [szL,szL] at hsz
      have w1:=zBB (j:=0) hwk rfl
      obtain ⟨u,A1,B1,e1,r1,r2,r3,r4,r5⟩:=kid a (by simp) (by simpa [hk] using w1) h hN (hfr.same fun z hz=>by
        simp only [frL,bndK];exact .inl ⟨hz,by simp⟩) (by omega)
      obtain ⟨A2,B2,e2,s1,s2⟩:=zDD r1 (by omega) r2 (zJp _)
      rw [zE4] at e2
      have hnx2:=zIU (S:=B2) (by omega)
      refine ⟨varN B2.nx,zB7 A2,zB7 B2,e1.both e2 fun q ⟨p1,p2⟩ ⟨p3,p4⟩=>⟨?_,?_⟩,s1.next (by omega),fun _=>zMP ⟨s1.sb.nx,by omega⟩ (by omega)⟩
      · rw [Tr.expS,if_neg (by omega),if_neg (by omega),if_neg (by omega),if_neg (by omega),expK,if_neg (by omega),if_neg (by omega),p1];simp only;rw [if_neg (by omega),if_neg (by omega),if_neg (by omega),if_pos hk,p3]
      · rw [Tr.expS,if_neg (by omega),if_neg (by omega),if_neg (by omega),if_neg (by omega),expK,if_neg (by omega),if_neg (by omega),p2];simp only;rw [if_neg (by omega),if_neg (by omega),if_neg (by omega),if_pos hk,p4];simp only;rw [zHK,s1.nx]
    · obtain ⟨a,b,rfl⟩:=zFM hwf (by simpa [cntK] using hcn)
      rw [szL,szL,szL] at hsz
      have w1:=zBB (j:=0) hwk rfl
      have w2:=zBB (j:=1) hwk rfl
      obtain ⟨u,A1,B1,e1,r1,r2,r3,r4,r5⟩:=kid a (by simp) (by simpa [hk] using w1) h hN (hfr.same fun z hz=>by
        simp only [frL,bndK];exact .inl ⟨hz,by simp⟩) (by omega)
      have hgl : Gd (Vn B1.nx) (⟨x.text,zBC intT,[]⟩ : Lc).t:=zJp _
      obtain ⟨v,A2,B2,e2,s1,s2,s3,s4,s5⟩:=kid b (by simp) (by simpa [hk] using w2) r1 ((hN.up r3).app hgl (by simp)) (hfr.bind (M:=[⟨x.text,zBC intT,[]⟩]) fun z hz=>by
        simp only [frL,bndK]
        by_cases hzx : x.text = z
        · exact .inr ⟨_,List.mem_singleton_self _,hzx⟩
        · exact .inl (.inr (.inl ⟨hz,by simpa using fun e=>hzx e.symm⟩))) (by omega)
      obtain ⟨A3,B3,e3,q1,q2⟩:=zDD s1 (by omega) (r2.up s3) s2
      refine ⟨u,A3,B3,(e1.and e2).both e3 fun q ⟨⟨p1,p2⟩,p3,p4⟩ ⟨p5,p6⟩=>⟨?_,?_⟩,q1,fun _=>r2.up (by omega)⟩
      · rw [Tr.expS,if_neg (by omega),if_neg (by omega),if_neg (by omega),if_neg (by omega),expK,if_neg (by omega),if_neg (by omega),p1];simp only;rw [if_neg (by omega),if_neg (by omega),if_neg (by omega),if_neg (by omega),if_pos hk,exp1,p3];simp only;rw [p5]
      · rw [snoc,show shL k ⟨x.text,zBC intT,[]⟩ = ⟨x.text,zBC intT,[]⟩ by simp [shL,zE4]] at p4
        rw [Tr.expS,if_neg (by omega),if_neg (by omega),if_neg (by omega),if_neg (by omega),expK,if_neg (by omega),if_neg (by omega),p2];simp only;rw [if_neg (by omega),if_neg (by omega),if_neg (by omega),if_neg (by omega),if_pos hk,exp1,p4];simp only;rw [p6]
end Go.Proofs.YtblomnkamngnbaaGreatDoor
