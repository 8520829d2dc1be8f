/- Texts of this claim, merged: InfJ, InfK, InfL, InfM, InfN, InfO, InfP, InfQ, InfR, InfS, InfT, InfU, InfV, InfW, InfYB, TypU, TypV, TypW, TypX, TypP, InfXA, InfXB, InfXC, InfXD, InfXE, LexH, InfXF, InfXG, TypS, TypJ, TypK, TypL, TypM, TypN, TypO, InfYC, RefA, RefB1, RefB2, RefB3, RefB, RefC, RefS. -/
import Derived.Shelf.SlSortCmp.WholeK
import Derived.Shelf.SlSortCmp.NoneTotal
import Derived.Shelf.SlicesG.Cmp
import Derived.Ground.SlsfProg
import Derived.Ground.SlgcProg
import Derived.Test.YtblomnkamngnbaaGreatDoorMD
namespace Go.Proofs.YtblomnkamngnbaaGreatDoor
open Go.Sx
attribute [local irreducible] zAT Program.underlying Ylds zBA alex zBc zBO awp zAj zBX RCall zA2 zBH zBQ zA8 zBT zBZ zBd zBr zBN zEE VCall
theorem zU3 {η : List Ob} {σ : Sl} {i : Nat} {x : Operand} {r : List (Nat × Operand)} {s : List (Nat × D)} {id n e sz : Nat} {ys : List D} (h : oval σ x = .buf id n) (ho : η[id]? = some (.buf false e sz ys)) (hn : n ≤ ys.length) (k : zE2 η σ r s) : zE2 η σ ((i,x) :: r) ((i,.slice (ys.take n)) :: s):=⟨by simp,by rw [h];exact ⟨e,sz,ys,ho,hn,rfl⟩,rfl,k⟩
theorem zIZ {q : Nat} : ∀ (N : List Lc) {S S' : TS} {b : List Int},zCh q N S = some (b,S') → ∀ i : Nat,∃ bi Si,zCh q (N.take i) S = some (bi,Si) ∧ ∃ br,zCh q (N.drop i) Si = some (br,S') ∧ b = bi ++ br
  | N,S,S',b,h,0=>⟨[],S,by simp [zCh],b,by simpa using h,rfl⟩
  | [],S,S',b,h,i + 1=>⟨b,S',by simpa using h,[],by simp [zCh],by simp⟩
  | l :: r,S,S',b,h,i + 1=>by
    rw [zCh] at h
    split at h
    · rename_i u S1 h1
      split at h
      · rename_i b2 S2 h2
        injection h with h;injection h with e1 e2;subst e1;subst e2
        obtain ⟨bi,Si,h3,br,h4,rfl⟩:=zIZ r h2 i
        exact ⟨zC9 u ++ bi,Si,by rw [List.take_succ_cons,zCh,h1];dsimp only;rw [h3],br,by rw [List.drop_succ_cons];exact h4,by simp⟩
      · cases h
    · cases h
theorem zN6 {q : Nat} {N : List Lc} {i : Nat} {l : Lc} (hl : N[i]? = some l) {S Si S2 : TS} {bi b2 : List Int} (h1 : zCh q (N.take i) S = some (bi,Si)) (h2 : zCh q (N.take (i + 1)) S = some (b2,S2)) : ∃ u,zEY q Si (zFm (zDI l.any) l.t) = some (u,S2) ∧ b2 = bi ++ zC9 u:=by
  induction N generalizing S bi b2 i with
  | nil=>simp at hl
  | cons m r ih =>
    cases i with
    | zero =>
      simp at hl;subst hl
      simp only [List.take_zero,zCh,Option.some.injEq,Prod.mk.injEq] at h1
      obtain ⟨rfl,rfl⟩:=h1
      simp only [Nat.zero_add,List.take_succ_cons,List.take_zero,zCh] at h2
      split at h2
      · rename_i u S1 hu
        simp at h2
        obtain ⟨rfl,rfl⟩:=h2
        exact ⟨u,hu,rfl⟩
      · cases h2
    | succ i =>
      rw [List.take_succ_cons,zCh] at h1 h2
      split at h1
      · rename_i u S1 hu
        rw [hu] at h2
        dsimp only at h2
        split at h1
        · rename_i b3 S3 h3
          split at h2
          · rename_i b4 S4 h4
            injection h1 with h1;injection h1 with e1 e2;subst e1;subst e2
            injection h2 with h2;injection h2 with e1 e2;subst e1;subst e2
            obtain ⟨w,h5,h6⟩:=ih (by simpa using hl) h3 h4
            exact ⟨w,h5,by rw [h6,List.append_assoc]⟩
          · cases h2
        · cases h1
      · cases h1
theorem zFZ {q : Nat} {S S' : TS} {t r : List Nd} (h : zEY q S t = some (r,S')) (ht : t.length ≤ 10000) : r.length ≤ 10000:=by
  unfold zEY at h
  repeat' split at h
  all_goals first
    | (injection h with h;injection h with h1 h2;subst h1;assumption)
    | cases h
theorem zF7 {t : List Nd} : (zC9 t).length ≤ 4000:=by
  unfold zC9;split
  · rename_i h1
    have h2:=(zFt h1).1
    have:=zF6 t []
    unfold zCU;simp only [List.length_nil] at this;omega
  · simp
theorem zGO {q : Nat} {S S' : TS} {t r : List Nd} (h : zEY q S t = some (r,S')) : S'.st = S.st ∧ S'.nx = S.nx:=by
  unfold zEY zHQ at h
  repeat' split at h
  all_goals first
    | (injection h with h;injection h with h1 h2;subst h2;exact ⟨rfl,rfl⟩)
    | cases h
theorem zIa {q : Nat} : ∀ (N : List Lc) {S S' : TS} {b : List Int},zCh q N S = some (b,S') → S'.st = S.st ∧ S'.nx = S.nx
  | [],S,S',b,h=>by simp [zCh] at h;obtain ⟨_,rfl⟩:=h;exact ⟨rfl,rfl⟩
  | l :: r,S,S',b,h=>by
    rw [zCh] at h
    split at h
    · rename_i u S1 h1
      split at h
      · rename_i b2 S2 h2
        injection h with h;injection h with e1 e2;subst e1;subst e2
        have h3:=zIa r h2
        have h4:=zGO h1
        exact ⟨h3.1.trans h4.1,h3.2.trans h4.2⟩
      · cases h
    · cases h
set_option maxHeartbeats 4000000 in
theorem zSC (L : List Nd) (E : List Sg) (S S' : TS) (q : Nat) (x : List UInt8) (t : List Nd) (N : List Lc) (l : Lc) (ht : t.length ≤ 10000) (hN : N.length ≤ 100000) (hNt : ∀ l ∈ N,l.t.length ≤ 10000 ∧ l.any.length ≤ 1000000) (hL : StoB S.st)
    (h : anyS q N S x t = some (l,S')) :
    zA2 Tryz.prog 69 [.ptr 0 0,.d (str x),.d (zAc t),.d (locs N)] (tyO L E S) (.d l.av) (tyO L E S'):=by
  unfold anyS at h
  split at h
  · rename_i u S1 h1
    split at h
    · rename_i b S2 h2
      injection h with h;injection h with e1 e2;subst e1;subst e2
      have hul:=zFZ h1 ht
      have hst:=zGO h1
      have hk:=zJm L E S S1 q t u (by omega) hL h1
      refine zO3 Tryz.func69 rfl Tryz.ntmps69 Tryz.results69 rfl rfl rfl ?_
      intro wb St0 X fx
      repeat' first | (refine zHH 4 0 false 3 1 rfl rfl rfl ?_)|apply en_n|apply zAH|apply zAB|apply zAF|apply w0|(refine zA3 [0,1,2] zHa (hk) ?_ rfl rfl (by decide) rfl rfl rfl rfl rfl rfl ?_;(repeat (refine zAL rfl ?_));exact zAS)|(apply zA4 (hd:=rfl) (hro:=rfl);(with_reducible first|exact zEz|exact zTQ))|apply ay (hd:=rfl)|exact zAE rfl|exact zAC rfl|(apply zAl;exact rfl;(with_reducible exact zDK))|exact zAZ rfl|apply zAI
      have hb0:=zIZ N h2
      have hbl : ∀ (i : Nat) bi Si,zCh q (N.take i) S1 = some (bi,Si) → bi.length ≤ 4000 * i ∧ Si.st = S1.st:=fun i bi Si hbi=>⟨by
        have key : ∀ (M : List Lc) (T T' : TS) (c : List Int),zCh q M T = some (c,T') → (∀ l ∈ M,l ∈ N) → T.st = S.st → c.length ≤ 4000 * M.length:=by
          intro M
          induction M with
          | nil=>intro T T' c hc _ _;simp [zCh] at hc;simp [hc.1.symm]
          | cons m M ih =>
            intro T T' c hc hm hT
            rw [zCh] at hc
            split at hc
            · rename_i w T1 hw
              split at hc
              · rename_i c2 T2 hc2
                injection hc with hc;injection hc with e1 e2;subst e1;subst e2
                have h5:=ih T1 _ c2 hc2 (fun l hl=>hm l (List.mem_cons_of_mem _ hl)) ((zGO hw).1.trans hT)
                have h6:=(hNt m (hm m List.mem_cons_self))
                have h8:=zF7 (t:=w)
                rw [List.length_append,List.length_cons];omega
              · cases hc
            · cases hc
        have:=key (N.take i) S1 Si bi hbi (fun l hl=>List.mem_of_mem_take hl) hst.1
        rw [List.length_take] at this
        have : min i N.length ≤ i:=Nat.min_le_left _ _
        omega,(zIa _ hbi).1⟩
      refine zAr (α:=Nat × List Int × TS) (fun p=>p.1 ≤ N.length ∧ zCh q (N.take p.1) S1 = some (p.2.1,p.2.2)) (fun p=>[(0,.ptr 0 0),(1,.d (str x)),(2,.d (zAc u)),(8,.ptr 3 0),(9,.ptr 4 0),(17,.d (locs N)),(18,.d (i64 (N.length : Int))),(19,.d (i64 (p.1 : Int)))]) (fun p=>anch fx 0 (tyO L E S) (tyO L E p.2.2) ++ [.bx none none [.d (.val (.string ByteArray.empty)),.nil,.nil],.bx none none [.buf 5 (p.2.1.map ival).length],.buf false 3 1 (p.2.1.map ival)]) (fun p=>N.length - p.1) (0,[],S1) ⟨Nat.zero_le _,by simp [zCh]⟩
        (zAO (zAA rfl (zAA rfl (zAA rfl (zAA rfl (zAA rfl (zAA rfl (Le_d rfl rfl (zAA rfl zAa)))))))) (zAD rfl rfl (zAD rfl rfl (zAD rfl rfl (zAD rfl rfl (zAD rfl rfl (zAu rfl rfl rfl zAN)))))) rfl rfl) ?_
      rintro ⟨i,bi,Si⟩ ⟨hi,hbi⟩
      dsimp only at hi hbi ⊢
      obtain ⟨hbil,hSi⟩:=hbl i bi Si hbi
      have hLi : StoB Si.st:=by rw [hSi,hst.1];exact hL
      rcases Nat.lt_or_ge i N.length with hlt | hge
      · have hl : N[i]? = some N[i]:=List.getElem?_eq_getElem hlt
        have hm:=hNt _ (List.getElem_mem hlt)
        generalize N[i] = m at *
        obtain ⟨b2,Sn,hb2,_⟩:=hb0 (i + 1)
        obtain ⟨w,hkw,rfl⟩:=zN6 hl hbi hb2
        have hal : (zFm (zDI m.any) m.t).length ≤ 10000:=by
          have h7:=zJ2 (l:=zDI m.any) 1 (fun b hb=>by
            obtain ⟨v,_,rfl⟩:=List.mem_map.1 hb;exact Nat.le_refl _) (Nat.le_refl _) m.t
          unfold zFm;omega
        have hwl:=zFZ hkw hal
        have hkc:=zJm L E Si Sn q _ w (by omega) hLi hkw
        have hhd:=zPF m.any (by omega)
        have hap:=zNV (zDI m.any) m.t (by simp [zDI];omega) hm.1 (fun b hb=>by
          obtain ⟨v,_,rfl⟩:=List.mem_map.1 hb;show (zBx intT).length ≤ _;simp [zBx])
        have hvs:=zKF w (by omega)
        have hvl:=zF7 (t:=w)
        clear hb0 hbl hkw hk h1 h2 hNt
        skip
        repeat' first | apply en_n|apply zAH|apply zAB|apply zAF|apply w0|(apply zA5;exact rfl;exact rfl;first|assumption|omega)|(refine zAV zPM hhd (zAX rfl zAG))|(refine zAV zNB hap (zAX rfl (zAX rfl zAG)))|(refine zAV zIL hvs (zAX rfl zAG))|(refine zC5 (by kernel_rfl) ?_;refine zA3 [0,1,2] zHa (hkc) ?_ rfl rfl (by decide) rfl rfl rfl rfl rfl rfl ?_;(repeat (refine zAL rfl ?_));exact zAS)|(apply aApp (id:=5) (hd:=rfl) (hro:=rfl);exact rfl;exact rfl;(first|exact zAk rfl|exact Co_bb rfl rfl rfl|exact Co_nn rfl);(first|exact rfl|exact (by simp));exact rfl;(with_reducible exact zCw);(with_reducible exact zA7);(with_reducible exact zIl);(with_reducible exact zG4);(first|exact zCC (fun _=>rfl)|exact zCA rfl))|(apply aJ (hd:=rfl);(first|exact zAk rfl|exact Co_bb rfl rfl rfl|exact Co_nn rfl);exact rfl;(with_reducible exact zBw);assumption;omega;exact fun _=>rfl)|(apply zA4 (hd:=rfl) (hro:=rfl);(with_reducible exact zEz))|apply ay (hd:=rfl)|exact zAE rfl|exact zAC rfl|(apply zAf;exact rfl;(with_reducible exact zHC);exact rfl)|exact zBC rfl rfl|exact zAZ rfl|(apply zAR;exact rfl;(with_reducible first|exact fl_1|exact fl_2))|(apply zAU;exact rfl;(with_reducible first|exact zAn|exact zJW);exact rfl;exact rfl)|(refine w0' ?_)|(apply zAx;exact rfl;exact rfl;exact rfl;(with_reducible first|exact zHC|exact zJW);exact rfl;exact rfl;exact rfl;exact rfl)|exact zAK rfl|apply zAI|apply zAP|refine zA6 (by kernel_rfl) (by kernel_rfl) ?_|apply eb_n
        all_goals first | omega | skip
        · simp only [List.length_map];omega
        · exact ⟨(i + 1,bi ++ zC9 w,Sn),⟨hlt,hb2⟩,by show N.length - (i + 1) < _;omega,zAO (zAA rfl (zAA rfl (zAA rfl (zAA rfl (zAA rfl (zAA rfl (zAA rfl (zAA rfl zAa)))))))) (zAD rfl rfl (zAD rfl rfl (zAD rfl rfl (zAD rfl rfl (zAD rfl (congrArg (fun k=>Ob.bx none none [SV.buf 5 k]) (show ((bi ++ zC9 w).map ival).length = (bi.map ival).length + ((zC9 w).map ival).length by rw [List.map_append,List.length_append])) (zAu rfl rfl (by rw [List.map_append]) zAN)))))) rfl rfl⟩
      · have e1 : N.take i = N:=List.take_of_length_le hge
        rw [e1,h2] at hbi
        injection hbi with hbi;injection hbi with e2 e3;subst e2;subst e3
        have hvf:=zRk u (by omega)
        have hvl:=zF7 (t:=u)
        have hdl:=zTM (zC9 u) b (by omega) (by omega)
        have hkl:=zMx (zC9 u) b
        generalize zC9 u = vs at *
        have hkt : (kept vs b).length ≤ ((kept vs b).map ival ++ List.replicate (vs.length - (kept vs b).length) (ival 0)).length:=by simp
        clear hb0 hbl hk h1 h2 hNt
        skip
        repeat' first | (refine zF2 13 6 rfl rfl rfl ?_)|apply en_n|apply zAH|apply zAB|apply zAF|apply w0|(apply zBn;exact rfl;exact rfl;first|assumption|omega)|(refine zP8 zIL hvf (zAX rfl zAG) rfl rfl ?_)|(refine zA3 [6,4,5] zSq (hdl) ?_ rfl rfl (by decide) rfl rfl rfl rfl rfl rfl ?_;(repeat (refine zAL rfl ?_));exact zAS)|(apply zBE (cs:=[str x,zAc u,.slice (((kept vs b).map ival ++ List.replicate (vs.length - (kept vs b).length) (ival 0)).take (kept vs b).length)]);exact zHE;exact zEz;exact PD_d rfl rfl (PD_d rfl rfl (zU3 rfl rfl hkt zBy));exact rfl)|apply ay (hd:=rfl)|exact zAE rfl|exact zAw rfl|exact zAm rfl|exact zF3 rfl|(refine w0' ?_)|(apply zAx;exact rfl;exact rfl;exact rfl;(with_reducible exact zHC);exact rfl;exact rfl;exact rfl;exact rfl)|exact zAQ rfl|apply zAM|apply zAt|apply en_e|apply eb_e
        have hkf : kept vs b = vs.filter fun v=>!b.contains v:=by
          unfold kept
          refine List.filter_congr fun v _=>?_
          by_cases hvb : v ∈ b <;> simp [hvb]
        have htk : ((kept vs b).map ival ++ List.replicate (vs.length - (kept vs b).length) (ival 0)).take (kept vs b).length = (kept vs b).map ival:=by
          rw [show (kept vs b).length = ((kept vs b).map ival).length by rw [List.length_map],List.take_left]
        refine zNn (zJd (RV_c rfl rfl zHC rfl rfl zFp ?_)) (zAO zAa (zAD rfl rfl (zAD rfl rfl (zAD rfl rfl zAN))) rfl rfl)
        rw [← hkf,htk];rfl
    · cases h
  · cases h
end Go.Proofs.YtblomnkamngnbaaGreatDoor
namespace Go.Proofs.YtblomnkamngnbaaGreatDoor
open Go.Sx
def LcOk (l : Lc) : Prop:=l.t.length ≤ 10000 ∧ l.any.length ≤ 4000
def LcsOk (N : List Lc) : Prop:=∀ l ∈ N,LcOk l
theorem LcsOk.app {N : List Lc} {l : Lc} (h : LcsOk N) (hl : LcOk l) : LcsOk (N ++ [l]):=fun m hm=>by
  rcases List.mem_append.1 hm with h1 | h1
  · exact h m h1
  · rw [List.mem_singleton] at h1;subst h1;exact hl
structure Up (S S' : TS) (k : Nat) : Prop where
  lo : S.nx ≤ S'.nx
  hi : S'.nx ≤ S.nx + k
  st : StoB S.st → StoB S'.st
theorem Up.refl (S : TS) : Up S S 0:=⟨Int.le_refl _,by omega,id⟩
theorem Up.trans {A B D : TS} {a b : Nat} (h : Up A B a) (k : Up B D b) : Up A D (a + b):=⟨Int.le_trans h.lo k.lo,by have:=h.hi;have:=k.hi;omega,fun hs=>k.st (h.st hs)⟩
theorem Up.mono {A B : TS} {a b : Nat} (h : Up A B a) (hab : a ≤ b) : Up A B b:=⟨h.lo,by have:=h.hi;omega,h.st⟩
theorem zCM (S : TS) : Up S (zCk S) 1:=⟨by rw [zJj];omega,by rw [zJj];omega,fun h=>by rw [zMr];exact h⟩
theorem zB9 {q : Nat} {S S' : TS} {a b : List Nd} (h : zDP q S a b = some S') : Up S S' 0:=by
  unfold zDP at h
  split at h
  · injection h with h;subst h;exact Up.refl S
  · split at h
    · rename_i e L hu
      injection h with h
      have hb : StoB S.st → StoB L:=fun hs=>by
        unfold uniF at hu
        split at hu
        · injection hu with hu;injection hu with h1 h2;subst h2;exact hs
        · rename_i hc
          exact zJa _ _ _ _ _ hs hu
      subst h
      split
      · exact ⟨by unfold zHQ;split <;> simp,by unfold zHQ;split <;> simp,fun hs=>by unfold zHQ;split <;> exact hb hs⟩
      · exact ⟨Int.le_refl _,by simp,hb⟩
    · cases h
theorem zO8 {q : Nat} {S S' : TS} {t r : List Nd} (h : zEY q S t = some (r,S')) : Up S S' 0:=by
  have:=zGO h
  exact ⟨by omega,by omega,fun hs=>by rw [this.1];exact hs⟩
theorem zPT (vs : List Int) (S : TS) : Up S (zCg vs S).2 vs.length:=by
  rw [zHc]
  exact ⟨by rw [zMp];omega,by rw [zMp];omega,fun h=>by rw [zR0];exact h⟩
theorem zLX {l : List Bd} (h : ∀ b ∈ l,b.ty.length = 1) : ∀ t : List Nd,(zFm l t).length = t.length
  | []=>rfl
  | n :: t=>by
    have ih:=zLX h t
    unfold zFm at ih ⊢
    rw [List.flatMap_cons,List.length_append,ih,List.length_cons]
    have : (app1 l n).length = 1:=by
      unfold app1
      split
      · split
        · rename_i b hb;exact h b (List.mem_of_find?_eq_some hb)
        · rfl
      · rfl
    omega
theorem zJB (S : TS) (t : List Nd) (vs : List Int) : (zGW S t vs).1.length = t.length:=zLX (fun _ hb=>zK7 hb) t
theorem zK6 (S : TS) (t : List Nd) (vs : List Int) : Up S (zGW S t vs).2 vs.length:=zPT vs S
theorem zIo (t : List Nd) : (zC9 t).length ≤ 4000:=zF7
theorem zJU {E : List Sg} {S S' : TS} {x : List UInt8} {r : List Nd} (hT : ∀ s ∈ E,s.ty.length ≤ 10000) (h : zKL E S x = some (r,S')) : Up S S' 4000 ∧ r.length ≤ 10000:=by
  unfold zKL at h
  split at h
  · rename_i s hs
    have h1:=zK6 S s.ty (zC9 s.ty)
    have h2:=zJB S s.ty (zC9 s.ty)
    injection h with h
    rw [h] at h1 h2
    exact ⟨h1.mono (zIo _),by dsimp only at h2;rw [h2];exact hT s (List.mem_of_find?_eq_some hs)⟩
  · cases h
theorem zKi {E : List Sg} {N : List Lc} {S S' : TS} {x : List UInt8} {r : List Nd} (hT : ∀ s ∈ E,s.ty.length ≤ 10000) (hN : LcsOk N) (h : zI4 E N S x = some (r,S')) : Up S S' 4000 ∧ r.length ≤ 10000:=by
  unfold zI4 at h
  split at h
  · rename_i l hl
    have h0:=hN l (List.mem_reverse.1 (List.mem_of_find?_eq_some hl))
    have h1:=zK6 S l.t l.any
    have h2:=zJB S l.t l.any
    injection h with h
    rw [h] at h1 h2
    exact ⟨h1.mono h0.2,by dsimp only at h2;rw [h2];exact h0.1⟩
  · exact zJU hT h
theorem zPs {q : Nat} {N : List Lc} {S S' : TS} {b : List Int} (h : zCh q N S = some (b,S')) : Up S S' 0:=by
  have:=zIa N h
  exact ⟨by omega,by omega,fun hs=>by rw [this.1];exact hs⟩
theorem zJ8 {q : Nat} {N : List Lc} {S S' : TS} {x : List UInt8} {t : List Nd} {l : Lc} (ht : t.length ≤ 10000) (h : anyS q N S x t = some (l,S')) : Up S S' 0 ∧ LcOk l:=by
  unfold anyS at h
  split at h
  · rename_i u S1 h1
    split at h
    · rename_i b S2 h2
      injection h with h;injection h with e1 e2;subst e1;subst e2
      exact ⟨(zO8 h1).trans (zPs h2),zFZ h1 ht,Nat.le_trans (List.length_filter_le _ _) (zIo _)⟩
    · cases h
  · cases h
theorem zFX (t : List Nd) : (∀ a ∈ (zCG t).1,a.length ≤ 4000) ∧ (zCG t).2.length ≤ 4000 ∧ (zCG t).1.length ≤ 4000:=by
  by_cases hc : ckT t = 0
  · obtain ⟨T,rfl,hw,hr,hs⟩:=zIU hc
    rw [zDz hw hc]
    obtain ⟨h1,h2,_⟩:=zFW _ T (Nat.le_refl _)
    exact ⟨fun a ha=>Nat.le_trans (h2 a ha) hs,by omega,by omega⟩
  · rw [zCG,if_neg hc];simp
mutual
def Tr.pv : Tr → Nat
  | .mk x ks=>if x.kind = 22 then 1 else if x.kind = 24 then pvL ks else 0
def pvL : List Tr → Nat
  | []=>0
  | t :: r=>t.pv + pvL r
end
theorem zJi {q : Nat} {E : List Sg} (hT : ∀ s ∈ E,s.ty.length ≤ 10000) : ∀ (m : Nat) (t : Tr),t.sz ≤ m → t.werr true = 0 → ∀ {N N' : List Lc} {S S' : TS} {r : List Nd},LcsOk N → t.patS q E N S = some (r,N',S') → Up S S' (4001 * t.sz) ∧ r.length ≤ 10000 ∧ LcsOk N' ∧ ∃ M,N' = N ++ M ∧ M.length = t.pv
  | 0,t,h=>by have:=zBR t;omega
  | m + 1,.mk x ks,hm=>by
    intro hw N N' S S' r hN h
    have hsz : (Tr.mk x ks).sz = szL ks + 1:=by rw [Tr.sz]
    rw [Tr.patS] at h
    by_cases h23 : x.kind = 23
    · rw [if_pos h23] at h
      injection h with h;injection h with e1 e2;injection e2 with e2 e3;subst e1;subst e2;subst e3
      exact ⟨(Up.refl S).mono (by omega),by simp [zBx],hN,[],by simp,by rw [Tr.pv,if_neg (by omega),if_neg (by omega)];rfl⟩
    · rw [if_neg h23] at h
      by_cases h21 : x.kind = 21
      · rw [if_pos h21] at h
        injection h with h;injection h with e1 e2;injection e2 with e2 e3;subst e1;subst e2;subst e3
        exact ⟨(zCM S).mono (by omega),by simp [varN],hN,[],by simp,by rw [Tr.pv,if_neg (by omega),if_neg (by omega)];rfl⟩
      · rw [if_neg h21] at h
        by_cases h22 : x.kind = 22
        · rw [if_pos h22] at h
          injection h with h;injection h with e1 e2;injection e2 with e2 e3;subst e1;subst e2;subst e3
          exact ⟨(zCM S).mono (by omega),by simp [varN],hN.app ⟨by simp [varN],by simp⟩,[_],rfl,by rw [Tr.pv,if_pos h22];rfl⟩
        · rw [if_neg h22] at h
          have h24 : x.kind = 24:=by
            have h1:=zCL (zC0 hw).1
            have h3:=h1.2.1
            have h4 : 21 ≤ x.kind ∧ x.kind ≤ 24:=by simpa [patK] using h3
            omega
          split at h
          · rename_i c S1 h1
            split at h
            · rename_i N2 S2 h2
              injection h with h;injection h with e1 e2;injection e2 with e2 e3;subst e1;subst e2;subst e3
              obtain ⟨b1,b2⟩:=zJU hT h1
              have hwk:=(zC0 hw).2
              have key : ∀ (ks : List Tr) (i : Nat) (A : List (List Nd)) {N N2 : List Lc} {S S2 : TS},szL ks ≤ m → zDX (decide (x.kind = 10)) true ks i = 0 → LcsOk N → patL q E A ks N S = some (N2,S2) → Up S S2 (4001 * szL ks) ∧ LcsOk N2 ∧ ∃ M,N2 = N ++ M ∧ M.length = pvL ks:=by
                intro ks
                induction ks with
                | nil =>
                  intro i A N N2 S S2 _ _ hN h
                  rw [patL.eq_1] at h
                  injection h with h;injection h with e1 e2;subst e1;subst e2
                  exact ⟨(Up.refl S).mono (by omega),hN,[],by simp,by simp [pvL]⟩
                | cons k ks ihk =>
                  intro i A N N2 S S2 hs hw hN h
                  rw [szL] at hs
                  have hkp:=zBR k
                  rw [zDX] at hw
                  split at hw
                  · contradiction
                  rename_i hw1
                  cases A with
                  | nil=>rw [patL] at h;cases h
                  | cons a A =>
                    rw [patL] at h
                    split at h
                    · rename_i t N1 S1 h1
                      split at h
                      · rename_i S3 h3
                        obtain ⟨c1,c2,c3,M1,c4,c5⟩:=zJi hT m k (by omega) (by simpa using hw1) hN h1
                        obtain ⟨d1,d2,M2,d3,d4⟩:=ihk (i + 1) A (by omega) hw c3 h
                        refine ⟨((c1.trans (zB9 h3)).trans d1).mono (by rw [szL,Nat.mul_add];omega),d2,M1 ++ M2,by rw [d3,c4,List.append_assoc],by rw [List.length_append,c5,d4,pvL]⟩
                      · cases h
                    · cases h
              obtain ⟨d1,d2,d3⟩:=key ks 0 _ (by omega) hwk hN h2
              exact ⟨(b1.trans d1).mono (by rw [hsz,Nat.mul_add];omega),Nat.le_trans (zFX c).2.1 (by omega),d2,by rw [Tr.pv,if_neg h22,if_pos h24];exact d3⟩
            · cases h
          · cases h
end Go.Proofs.YtblomnkamngnbaaGreatDoor
namespace Go.Proofs.YtblomnkamngnbaaGreatDoor
open Go.Sx
section
variable {q : Nat} {E : List Sg} {x : Nd} {N : List Lc} {S S' : TS} {r : List Nd} {a b c k : Tr} {ks : List Tr}
theorem zPi (t : Tr) (h0 : S.er ≠ 0) : t.expS q E N S = some (zBx intT,S):=by
  cases t;rw [Tr.expS,if_pos h0]
theorem zT7 (h0 : S.er = 0) (hk : x.kind = 1) (h : (Tr.mk x ks).expS q E N S = some (r,S')) : r = zBx intT ∧ S' = S:=by
  rw [Tr.expS,if_neg (by omega),if_pos hk] at h
  injection h with h;injection h with h1 h2;exact ⟨h1.symm,h2.symm⟩
theorem zT6 (h0 : S.er = 0) (hk : x.kind = 2) (h : (Tr.mk x ks).expS q E N S = some (r,S')) : r = zBx texT ∧ S' = S:=by
  rw [Tr.expS,if_neg (by omega),if_neg (by omega),if_pos hk] at h
  injection h with h;injection h with h1 h2;exact ⟨h1.symm,h2.symm⟩
theorem zT5 (h0 : S.er = 0) (hk : x.kind = 3 ∨ x.kind = 4) (h : (Tr.mk x ks).expS q E N S = some (r,S')) : ∃ u S1,zI4 E N (zCk S) x.text = some (u,S1) ∧ zDP q S1 (varN S.nx) u = some S' ∧ r = varN S.nx:=by
  rw [Tr.expS,if_neg (by omega),if_neg (by omega),if_neg (by omega),if_pos hk] at h
  split at h
  · rename_i u S1 h1
    split at h
    · rename_i S2 h2
      injection h with h;injection h with e1 e2;subst e1;subst e2;exact ⟨u,S1,h1,h2,rfl⟩
    · cases h
  · cases h
theorem zLE (h0 : S.er = 0) (hk : 5 ≤ x.kind) (h : (Tr.mk x ks).expS q E N S = some (r,S')) : expK q E x ks.length ks N S = some (r,S'):=by
  rwa [Tr.expS,if_neg (by omega),if_neg (by omega),if_neg (by omega),if_neg (by omega)] at h
theorem zT4 (h0 : S.er = 0) (hk : x.kind = 5) (h : (Tr.mk x (k :: ks)).expS q E N S = some (r,S')) : ∃ b,k.expS q E (N ++ [⟨x.text,varN S.nx,[]⟩]) (zCk S) = some (b,S') ∧ r = zGb (varN S.nx) b:=by
  have h:=zLE h0 (by omega) h
  rw [expK,if_pos hk] at h
  split at h
  · rename_i b S1 h1;injection h with h;injection h with e1 e2;subst e1;subst e2;exact ⟨b,h1,rfl⟩
  · cases h
theorem zT2 (h0 : S.er = 0) (hk : x.kind = 8) (h : (Tr.mk x (a :: b :: ks)).expS q E N S = some (r,S')) : ∃ t S1 S2 y S3,a.expS q E (N ++ [⟨x.text,varN S.nx,[]⟩]) (zCk S) = some (t,S1) ∧ zDP q S1 (varN S.nx) t = some S2 ∧ anyS q N S2 x.text (varN S.nx) = some (y,S3) ∧ b.expS q E (N ++ [y]) S3 = some (r,S'):=by
  have h:=zLE h0 (by omega) h
  rw [expK,if_neg (by omega),if_pos hk] at h
  split at h
  · rename_i t S1 h1
    split at h
    · rename_i S2 h2
      split at h
      · rename_i y S3 h3
        rw [exp1] at h
        exact ⟨t,S1,S2,y,S3,h1,h2,h3,h⟩
      · cases h
    · cases h
  · cases h
theorem zS1 (h0 : S.er = 0) (hk : x.kind = 7) (h : (Tr.mk x (a :: b :: ks)).expS q E N S = some (r,S')) : ∃ t S1,a.expS q E N S = some (t,S1) ∧
    ((a.val = true ∧ ∃ y S2,anyS q N S1 x.text t = some (y,S2) ∧ b.expS q E (N ++ [y]) S2 = some (r,S')) ∨ (a.val = false ∧ b.expS q E (N ++ [⟨x.text,t,[]⟩]) S1 = some (r,S'))):=by
  have h:=zLE h0 (by omega) h
  rw [expK,if_neg (by omega),if_neg (by omega)] at h
  split at h
  · rename_i t S1 h1
    rw [if_pos hk] at h
    refine ⟨t,S1,h1,?_⟩
    split at h
    · rename_i hv
      split at h
      · rename_i y S2 h2
        rw [exp1] at h
        exact .inl ⟨hv,y,S2,h2,h⟩
      · cases h
    · rename_i hv
      rw [exp1] at h
      exact .inr ⟨by simpa using hv,h⟩
  · cases h
theorem zT3 (h0 : S.er = 0) (hk : x.kind = 6) (h : (Tr.mk x (a :: b :: ks)).expS q E N S = some (r,S')) : ∃ t S1 u S2,a.expS q E N S = some (t,S1) ∧ b.expS q E N S1 = some (u,S2) ∧ zDP q (zCk S2) t (zGb u (varN S2.nx)) = some S' ∧ r = varN S2.nx:=by
  have h:=zLE h0 (by omega) h
  rw [expK,if_neg (by omega),if_neg (by omega)] at h
  split at h
  · rename_i t S1 h1
    rw [if_neg (by omega),if_pos hk,exp1] at h
    split at h
    · rename_i u S2 h2
      split at h
      · rename_i S3 h3;injection h with h;injection h with e1 e2;subst e1;subst e2;exact ⟨t,S1,u,S2,h1,h2,h3,rfl⟩
      · cases h
    · cases h
  · cases h
theorem zT1 (h0 : S.er = 0) (hk : x.kind = 9) (h : (Tr.mk x (a :: b :: c :: ks)).expS q E N S = some (r,S')) : ∃ t S1 S2 S3 u S4,a.expS q E N S = some (t,S1) ∧ zDP q S1 t (zBx intT) = some S2 ∧ b.expS q E N S2 = some (r,S3) ∧ c.expS q E N S3 = some (u,S4) ∧ zDP q S4 r u = some S':=by
  have h:=zLE h0 (by omega) h
  rw [expK,if_neg (by omega),if_neg (by omega)] at h
  split at h
  · rename_i t S1 h1
    rw [if_neg (by omega),if_neg (by omega),if_pos hk] at h
    split at h
    · rename_i S2 h2
      rw [expI] at h
      split at h
      · rename_i w S3 h3
        rw [exp1] at h
        split at h
        · rename_i u S4 h4
          split at h
          · rename_i S5 h5;injection h with h;injection h with e1 e2;subst e1;subst e2;exact ⟨t,S1,S2,S3,u,S4,h1,h2,h3,h4,h5⟩
          · cases h
        · cases h
      · cases h
    · cases h
  · cases h
theorem zR9 (h0 : S.er = 0) (hk : x.kind = 11) (h : (Tr.mk x (a :: ks)).expS q E N S = some (r,S')) : ∃ t S1 S2,a.expS q E N S = some (t,S1) ∧ zDP q S1 t (zBx intT) = some S2 ∧ r = varN S2.nx ∧ S' = zCk S2:=by
  have h:=zLE h0 (by omega) h
  rw [expK,if_neg (by omega),if_neg (by omega)] at h
  split at h
  · rename_i t S1 h1
    rw [if_neg (by omega),if_neg (by omega),if_neg (by omega),if_pos hk] at h
    split at h
    · rename_i S2 h2;injection h with h;injection h with e1 e2;exact ⟨t,S1,S2,h1,h2,e1.symm,e2.symm⟩
    · cases h
  · cases h
theorem zR8 (h0 : S.er = 0) (hk : x.kind = 12) (h : (Tr.mk x (a :: b :: ks)).expS q E N S = some (r,S')) : ∃ S1 u S2,a.expS q E N S = some (r,S1) ∧ b.expS q E (N ++ [⟨x.text,zBx intT,[]⟩]) S1 = some (u,S2) ∧ zDP q S2 r u = some S':=by
  have h:=zLE h0 (by omega) h
  rw [expK,if_neg (by omega),if_neg (by omega)] at h
  split at h
  · rename_i t S1 h1
    rw [if_neg (by omega),if_neg (by omega),if_neg (by omega),if_neg (by omega),if_pos hk,exp1] at h
    split at h
    · rename_i u S2 h2
      split at h
      · rename_i S3 h3;injection h with h;injection h with e1 e2;subst e1;subst e2;exact ⟨S1,u,S2,h1,h2,h3⟩
      · cases h
    · cases h
  · cases h
theorem zSA (h0 : S.er = 0) (hk : x.kind = 10) (h : (Tr.mk x (a :: ks)).expS q E N S = some (r,S')) : ∃ t S1,a.expS q E N S = some (t,S1) ∧ expM q E t (varN S1.nx) ks N (zCk S1) = some S' ∧ r = varN S1.nx:=by
  have h:=zLE h0 (by omega) h
  rw [expK,if_neg (by omega),if_neg (by omega)] at h
  split at h
  · rename_i t S1 h1
    rw [if_neg (by omega),if_neg (by omega),if_neg (by omega),if_neg (by omega),if_neg (by omega)] at h
    split at h
    · rename_i S2 h2;injection h with h;injection h with e1 e2;subst e1;subst e2;exact ⟨t,S1,h1,h2,rfl⟩
    · cases h
  · cases h
theorem zT0 {of' to' : List Nd} {p : Tr} (h : expM q E of' to' (p :: k :: ks) N S = some S') : ∃ t N1 S1 S2 u S3 S4,p.patS q E N S = some (t,N1,S1) ∧ zDP q S1 t of' = some S2 ∧ k.expS q E N1 S2 = some (u,S3) ∧ zDP q S3 u to' = some S4 ∧ expM q E of' to' ks N S4 = some S':=by
  rw [expM] at h
  split at h
  · rename_i t N1 S1 h1
    split at h
    · rename_i S2 h2
      rw [expN] at h
      split at h
      · rename_i u S3 h3
        split at h
        · rename_i S4 h4;exact ⟨t,N1,S1,S2,u,S3,S4,h1,h2,h3,h4,h⟩
        · cases h
      · cases h
    · cases h
  · cases h
end
theorem zMw {x : Nd} {ks : List Tr} (hw : (Tr.mk x ks).wf) (h : x.kids = 1) : ∃ a,ks = [a]:=by
  rw [Tr.wf] at hw
  match ks,hw with
  | [a],_=>exact ⟨a,rfl⟩
  | [],hw=>simp at hw;omega
  | _ :: _ :: _,hw=>simp at hw;omega
theorem zHF {x : Nd} {ks : List Tr} (hw : (Tr.mk x ks).wf) (h : x.kids = 2) : ∃ a b,ks = [a,b]:=by
  rw [Tr.wf] at hw
  match ks,hw with
  | [a,b],_=>exact ⟨a,b,rfl⟩
  | [],hw=>simp at hw;omega
  | [_],hw=>simp at hw;omega
  | _ :: _ :: _ :: _,hw=>simp at hw;omega
theorem zR2 {x : Nd} {ks : List Tr} (hw : (Tr.mk x ks).wf) (h : x.kids = 3) : ∃ a b c,ks = [a,b,c]:=by
  rw [Tr.wf] at hw
  match ks,hw with
  | [a,b,c],_=>exact ⟨a,b,c,rfl⟩
  | [],hw=>simp at hw;omega
  | [_],hw=>simp at hw;omega
  | [_,_],hw=>simp at hw;omega
  | _ :: _ :: _ :: _ :: _,hw=>simp at hw;omega
theorem zC3 {x : Nd} {ks : List Tr} (hw : (Tr.mk x ks).werr false = 0) : (1 ≤ x.kind ∧ x.kind ≤ 12) ∧ cntK x.kind x.kids = true:=by
  have h1:=zCL (zC0 hw).1
  have h3 : okK x.kind = true:=h1.1
  have h4 : ¬ (21 ≤ x.kind ∧ x.kind ≤ 24):=by simpa [patK] using h1.2.1
  have h5 : (1 ≤ x.kind ∧ x.kind ≤ 12) ∨ (21 ≤ x.kind ∧ x.kind ≤ 24):=by simpa [okK] using h3
  exact ⟨by omega,h1.2.2⟩
theorem zJN (a b : List Nd) : (zGb a b).length = a.length + b.length + 1:=by simp [zGb]
theorem zBk {q : Nat} {E : List Sg} (hT : ∀ s ∈ E,s.ty.length ≤ 10000) : ∀ (m : Nat) (t : Tr),t.sz ≤ m → t.wf → t.werr false = 0 → t.sz ≤ 4500 → ∀ {N : List Lc} {S S' : TS} {r : List Nd},LcsOk N → t.expS q E N S = some (r,S') → Up S S' (4002 * t.sz) ∧ r.length ≤ 2 * t.sz + 1
  | 0,t,h=>by have:=zBR t;omega
  | m + 1,.mk x ks,hm=>by
    intro hwf hw hb N S S' r hN h
    have hsz : (Tr.mk x ks).sz = szL ks + 1:=by rw [Tr.sz]
    by_cases h0 : S.er = 0
    case neg =>
      rw [zPi _ h0] at h
      injection h with h;injection h with e1 e2;subst e1;subst e2
      exact ⟨(Up.refl S).mono (by omega),by simp [zBx] <;> omega⟩
    obtain ⟨hkk,hcn⟩:=zC3 hw
    have hwk:=(zC0 hw).2
    have hwf2:=zCT.1 (by rw [Tr.wf] at hwf;exact hwf.2)
    have hc : x.kind = 1 ∨ x.kind = 2 ∨ (x.kind = 3 ∨ x.kind = 4) ∨ x.kind = 5 ∨ x.kind = 6 ∨ x.kind = 7 ∨ x.kind = 8 ∨ x.kind = 9 ∨ x.kind = 10 ∨ x.kind = 11 ∨ x.kind = 12:=by omega
    rcases hc with hk | hk | hk | hk | hk | hk | hk | hk | hk | hk | hk
    · obtain ⟨rfl,rfl⟩:=zT7 h0 hk h
      exact ⟨(Up.refl _).mono (by omega),by simp [zBx] <;> omega⟩
    · obtain ⟨rfl,rfl⟩:=zT6 h0 hk h
      exact ⟨(Up.refl _).mono (by omega),by simp [zBx] <;> omega⟩
    · obtain ⟨u,S1,h1,h2,rfl⟩:=zT5 h0 hk h
      exact ⟨(((zCM S).trans (zKi hT hN h1).1).trans (zB9 h2)).mono (by omega),by simp [varN] <;> omega⟩
    all_goals rw [hk] at hcn
    · obtain ⟨k,rfl⟩:=zMw hwf (by simpa [cntK] using hcn)
      rw [szL,szL] at hsz
      obtain ⟨b,h1,rfl⟩:=zT4 h0 hk h
      have w1:=zBY (j:=0) hwk rfl
      obtain ⟨b1,b2⟩:=zBk hT m k (by omega) (hwf2 k (by simp)) (by simpa [hk] using w1) (by omega) (hN.app ⟨by simp [varN],by simp⟩) h1
      exact ⟨((zCM S).trans b1).mono (by omega),by rw [zJN];simp [varN];omega⟩
    · obtain ⟨a,b,rfl⟩:=zHF hwf (by simpa [cntK] using hcn)
      rw [szL,szL,szL] at hsz
      obtain ⟨t,S1,u,S2,h1,h2,h3,rfl⟩:=zT3 h0 hk h
      have w1:=zBY (j:=0) hwk rfl
      have w2:=zBY (j:=1) hwk rfl
      obtain ⟨b1,b2⟩:=zBk hT m a (by omega) (hwf2 a (by simp)) (by simpa [hk] using w1) (by omega) hN h1
      obtain ⟨c1,c2⟩:=zBk hT m b (by omega) (hwf2 b (by simp)) (by simpa [hk] using w2) (by omega) hN h2
      exact ⟨(((b1.trans c1).trans (zCM S2)).trans (zB9 h3)).mono (by omega),by simp [varN] <;> omega⟩
    · obtain ⟨a,b,rfl⟩:=zHF hwf (by simpa [cntK] using hcn)
      rw [szL,szL,szL] at hsz
      have w1:=zBY (j:=0) hwk rfl
      have w2:=zBY (j:=1) hwk rfl
      obtain ⟨t,S1,h1,h2⟩:=zS1 h0 hk h
      obtain ⟨b1,b2⟩:=zBk hT m a (by omega) (hwf2 a (by simp)) (by simpa [hk] using w1) (by omega) hN h1
      rcases h2 with ⟨_,y,S2,h3,h4⟩ | ⟨_,h4⟩
      · obtain ⟨d1,d2⟩:=zJ8 (by omega) h3
        obtain ⟨c1,c2⟩:=zBk hT m b (by omega) (hwf2 b (by simp)) (by simpa [hk] using w2) (by omega) (hN.app d2) h4
        exact ⟨((b1.trans d1).trans c1).mono (by omega),by omega⟩
      · obtain ⟨c1,c2⟩:=zBk hT m b (by omega) (hwf2 b (by simp)) (by simpa [hk] using w2) (by omega) (hN.app ⟨by show t.length ≤ _;omega,by simp⟩) h4
        exact ⟨(b1.trans c1).mono (by omega),by omega⟩
    · obtain ⟨a,b,rfl⟩:=zHF hwf (by simpa [cntK] using hcn)
      rw [szL,szL,szL] at hsz
      have w1:=zBY (j:=0) hwk rfl
      have w2:=zBY (j:=1) hwk rfl
      obtain ⟨t,S1,S2,y,S3,h1,h2,h3,h4⟩:=zT2 h0 hk h
      obtain ⟨b1,b2⟩:=zBk hT m a (by omega) (hwf2 a (by simp)) (by simpa [hk] using w1) (by omega) (hN.app ⟨by simp [varN],by simp⟩) h1
      obtain ⟨d1,d2⟩:=zJ8 (by simp [varN]) h3
      obtain ⟨c1,c2⟩:=zBk hT m b (by omega) (hwf2 b (by simp)) (by simpa [hk] using w2) (by omega) (hN.app d2) h4
      exact ⟨(((((zCM S).trans b1).trans (zB9 h2)).trans d1).trans c1).mono (by omega),by omega⟩
    · obtain ⟨a,b,c,rfl⟩:=zR2 hwf (by simpa [cntK] using hcn)
      rw [szL,szL,szL,szL] at hsz
      have w1:=zBY (j:=0) hwk rfl
      have w2:=zBY (j:=1) hwk rfl
      have w3:=zBY (j:=2) hwk rfl
      obtain ⟨t,S1,S2,S3,u,S4,h1,h2,h3,h4,h5⟩:=zT1 h0 hk h
      obtain ⟨b1,b2⟩:=zBk hT m a (by omega) (hwf2 a (by simp)) (by simpa [hk] using w1) (by omega) hN h1
      obtain ⟨c1,c2⟩:=zBk hT m b (by omega) (hwf2 b (by simp)) (by simpa [hk] using w2) (by omega) hN h3
      obtain ⟨d1,d2⟩:=zBk hT m c (by omega) (hwf2 c (by simp)) (by simpa [hk] using w3) (by omega) hN h4
      exact ⟨((((b1.trans (zB9 h2)).trans c1).trans d1).trans (zB9 h5)).mono (by omega),by omega⟩
    · have hcn2 : 3 ≤ x.kids ∧ x.kids % 2 = 1:=by simpa [cntK] using hcn
      obtain ⟨a,ks,rfl⟩ : ∃ a r,ks = a :: r:=by
        cases ks with
        | nil=>rw [Tr.wf] at hwf;simp at hwf;omega
        | cons a r=>exact ⟨a,r,rfl⟩
      rw [szL] at hsz
      have w1:=zBY (j:=0) hwk rfl
      obtain ⟨t,S1,h1,h2,rfl⟩:=zSA h0 hk h
      obtain ⟨b1,b2⟩:=zBk hT m a (by omega) (hwf2 a (by simp)) (by simpa [hk] using w1) (by omega) hN h1
      have key : ∀ (l : Nat) (ks : List Tr) (i : Nat),ks.length ≤ l → i % 2 = 1 → szL ks ≤ m → szL ks ≤ 4500 → (∀ k ∈ ks,k.wf) → zDX (decide (x.kind = 10)) false ks i = 0 → ∀ {of' to' : List Nd} {S S' : TS},expM q E of' to' ks N S = some S' → Up S S' (4002 * szL ks):=by
        intro l
        induction l with
        | zero =>
          intro ks i hl _ _ _ _ _ of' to' S S' h
          have : ks = []:=List.eq_nil_of_length_eq_zero (by omega)
          subst this
          rw [expM.eq_1] at h
          injection h with h;subst h;exact (Up.refl _).mono (by omega)
        | succ l ihl =>
          intro ks i hl hi hs hs2 hwf hw of' to' S S' h
          match ks,hl,hs,hs2,hwf,hw,h with
          | [],_,_,_,_,_,h =>
            rw [expM.eq_1] at h
            injection h with h;subst h;exact (Up.refl _).mono (by omega)
          | [p],_,_,_,_,_,h =>
            rw [expM] at h
            split at h
            · split at h
              · rw [expN.eq_1] at h;cases h
              · cases h
            · cases h
          | p :: k :: ks,hl,hs,hs2,hwf,hw,h =>
            obtain ⟨t,N1,S1,S2,u,S3,S4,g1,g2,g3,g4,g5⟩:=zT0 h
            rw [szL,szL] at hs hs2
            have v1:=zBY (j:=0) hw rfl
            have v2:=zBY (j:=1) hw rfl
            have v3 : zDX (decide (x.kind = 10)) false ks (i + 1 + 1) = 0:=by
              rw [zDX] at hw
              split at hw
              · contradiction
              rw [zDX] at hw
              split at hw
              · contradiction
              exact hw
            have e1 : (false || (decide (x.kind = 10) && decide ((i + 0) % 2 = 1))) = true:=by simp [hk];omega
            have e2 : (false || (decide (x.kind = 10) && decide ((i + 1) % 2 = 1))) = false:=by simp [hk];omega
            rw [e1] at v1
            rw [e2] at v2
            have hpp:=zBR p
            have hkp:=zBR k
            obtain ⟨a1,_,a3,_⟩:=zJi hT p.sz p (Nat.le_refl _) v1 hN g1
            obtain ⟨c1,_⟩:=zBk hT m k (by omega) (hwf k (by simp)) v2 (by omega) a3 g3
            have d1:=ihl ks (i + 1 + 1) (by simp at hl;omega) (by omega) (by omega) (by omega) (fun z hz=>hwf z (by simp [hz])) v3 g5
            exact ((((a1.trans (zB9 g2)).trans c1).trans (zB9 g4)).trans d1).mono (by rw [szL,szL,Nat.mul_add,Nat.mul_add];omega)
      have hwk2 : zDX (decide (x.kind = 10)) false ks 1 = 0:=by
        rw [zDX] at hwk
        split at hwk
        · contradiction
        exact hwk
      have d1:=key _ ks 1 (Nat.le_refl _) rfl (by omega) (by omega) (fun k hk=>hwf2 k (by simp [hk])) hwk2 h2
      exact ⟨((b1.trans (zCM S1)).trans d1).mono (by omega),by simp [varN] <;> omega⟩
    · obtain ⟨a,rfl⟩:=zMw hwf (by simpa [cntK] using hcn)
      rw [szL,szL] at hsz
      have w1:=zBY (j:=0) hwk rfl
      obtain ⟨t,S1,S2,h1,h2,rfl,rfl⟩:=zR9 h0 hk h
      obtain ⟨b1,b2⟩:=zBk hT m a (by omega) (hwf2 a (by simp)) (by simpa [hk] using w1) (by omega) hN h1
      exact ⟨((b1.trans (zB9 h2)).trans (zCM S2)).mono (by omega),by simp [varN] <;> omega⟩
    · obtain ⟨a,b,rfl⟩:=zHF hwf (by simpa [cntK] using hcn)
      rw [szL,szL,szL] at hsz
      have w1:=zBY (j:=0) hwk rfl
      have w2:=zBY (j:=1) hwk rfl
      obtain ⟨S1,u,S2,h1,h2,h3⟩:=zR8 h0 hk h
      obtain ⟨b1,b2⟩:=zBk hT m a (by omega) (hwf2 a (by simp)) (by simpa [hk] using w1) (by omega) hN h1
      obtain ⟨c1,c2⟩:=zBk hT m b (by omega) (hwf2 b (by simp)) (by simpa [hk] using w2) (by omega) (hN.app ⟨by simp [zBx],by simp⟩) h2
      exact ⟨((b1.trans c1).trans (zB9 h3)).mono (by omega),by omega⟩
end Go.Proofs.YtblomnkamngnbaaGreatDoor
namespace Go.Proofs.YtblomnkamngnbaaGreatDoor
open Go.Sx
abbrev tslN (N : List Lc) : D:=.tsl (N.map Lc.av)
abbrev bufN (N : List Lc) : Ob:=.buf false 91 3 (N.map Lc.av)
abbrev lnN (N : List Lc) : Nat:=(N.map Lc.av).length
structure Ask (E : List Sg) (N : List Lc) (S : TS) (k : Nat) : Prop where
  e : E.length ≤ 1000000
  t : ∀ s ∈ E,s.ty.length ≤ 10000
  n : N.length + k ≤ 100000
  ok : LcsOk N
  st : StoB S.st
  nx : 0 ≤ S.nx ∧ S.nx + 5000 * k ≤ 2000000000000
structure PatOk (L : List Nd) (E : List Sg) (q m : Nat) : Prop where
  a : ∀ (n : Nat) (p : Tr) (N N' : List Lc) (S S' : TS) (r : List Nd),p.sz ≤ m → At L n p → p.werr true = 0 → Ask E N S p.sz → p.patS q E N S = some (r,N',S') → p.pv = 0 →
    zA2 Tryz.prog 70 [.ptr 0 0,.d (i64 (n : Int)),.d (tslN N)] (tyO L E S) (.pair (.d (zAc r)) (.d (tslN N))) (tyO L E S')
  b : ∀ (n : Nat) (p : Tr) (N N' : List Lc) (S S' : TS) (r : List Nd),p.sz ≤ m → At L n p → p.werr true = 0 → Ask E N S p.sz → p.patS q E N S = some (r,N',S') → p.pv ≠ 0 →
    zA2 Tryz.prog 70 [.ptr 0 0,.d (i64 (n : Int)),.d (tslN N)] (tyO L E S ++ [bufN []]) (.pair (.d (zAc r)) (.buf 3 (lnN N'))) (tyO L E S' ++ [bufN N'])
  c : ∀ (n : Nat) (p : Tr) (N N' : List Lc) (S S' : TS) (r : List Nd),p.sz ≤ m → At L n p → p.werr true = 0 → Ask E N S p.sz → p.patS q E N S = some (r,N',S') →
    zA2 Tryz.prog 70 [.ptr 0 0,.d (i64 (n : Int)),.buf 3 (lnN N)] (tyO L E S ++ [bufN N]) (.pair (.d (zAc r)) (.buf 3 (lnN N'))) (tyO L E S' ++ [bufN N'])
theorem zOv {x : Nd} {ks : List Tr} (hw : (Tr.mk x ks).werr true = 0) : (21 ≤ x.kind ∧ x.kind ≤ 24) ∧ cntK x.kind x.kids = true:=by
  have h1:=zCL (zC0 hw).1
  exact ⟨by simpa [patK] using h1.2.1,h1.2.2⟩
section
variable {q : Nat} {E : List Sg} {x : Nd} {N N' : List Lc} {S S' : TS} {r : List Nd} {ks : List Tr}
theorem zTa (hk : x.kind = 23) (h : (Tr.mk x ks).patS q E N S = some (r,N',S')) : r = zBx intT ∧ N' = N ∧ S' = S:=by
  rw [Tr.patS,if_pos hk] at h
  injection h with h;injection h with e1 e2;injection e2 with e2 e3;exact ⟨e1.symm,e2.symm,e3.symm⟩
theorem zTc (hk : x.kind = 21) (h : (Tr.mk x ks).patS q E N S = some (r,N',S')) : r = varN S.nx ∧ N' = N ∧ S' = zCk S:=by
  rw [Tr.patS,if_neg (by omega),if_pos hk] at h
  injection h with h;injection h with e1 e2;injection e2 with e2 e3;exact ⟨e1.symm,e2.symm,e3.symm⟩
theorem zTb (hk : x.kind = 22) (h : (Tr.mk x ks).patS q E N S = some (r,N',S')) : r = varN S.nx ∧ N' = N ++ [⟨x.text,varN S.nx,[]⟩] ∧ S' = zCk S:=by
  rw [Tr.patS,if_neg (by omega),if_neg (by omega),if_pos hk] at h
  injection h with h;injection h with e1 e2;injection e2 with e2 e3;exact ⟨e1.symm,e2.symm,e3.symm⟩
theorem zTZ (hk : x.kind = 24) (h : (Tr.mk x ks).patS q E N S = some (r,N',S')) : ∃ c S1,zKL E S x.text = some (c,S1) ∧ patL q E (zCG c).1 ks N S1 = some (N',S') ∧ r = (zCG c).2:=by
  rw [Tr.patS,if_neg (by omega),if_neg (by omega),if_neg (by omega)] at h
  split at h
  · rename_i c S1 h1
    split at h
    · rename_i N2 S2 h2
      injection h with h;injection h with e1 e2;injection e2 with e2 e3;subst e1;subst e2;subst e3
      exact ⟨c,S1,h1,h2,rfl⟩
    · cases h
  · cases h
theorem zOw {A : List (List Nd)} {i : Nat} {k : Tr} (hk : ks[i]? = some k) (h : patL q E (A.drop i) (ks.drop i) N S = some (N',S')) : ∃ a t N1 S1 S2,A[i]? = some a ∧ k.patS q E N S = some (t,N1,S1) ∧ zDP q S1 t a = some S2 ∧ patL q E (A.drop (i + 1)) (ks.drop (i + 1)) N1 S2 = some (N',S'):=by
  obtain ⟨hi,rfl⟩:=List.getElem?_eq_some_iff.1 hk
  rw [List.drop_eq_getElem_cons hi] at h
  cases hA : A.drop i with
  | nil=>rw [hA,patL] at h;cases h
  | cons a r =>
    have hai : A[i]? = some a:=by
      have:=congrArg (·[0]?) hA
      simpa using this
    have hr : r = A.drop (i + 1):=by
      have h1 : A.drop (i + 1) = (A.drop i).drop 1:=by rw [List.drop_drop]
      rw [h1,hA];rfl
    rw [hA,patL] at h
    split at h
    · rename_i t N1 S1 h1
      split at h
      · rename_i S2 h2
        exact ⟨a,t,N1,S1,S2,hai,h1,h2,by rw [← hr];exact h⟩
      · cases h
    · cases h
end
theorem zDH (N : List Lc) : ∀ d ∈ N.map Lc.av,d.flat.length = 3:=fun d hd=>by obtain ⟨l,_,rfl⟩:=List.mem_map.1 hd;rfl
attribute [local irreducible] zAT Program.underlying Ylds zBA alex zBc zBO awp zAj zBX RCall zA2 zBH zBQ zA8 zBT zBZ zBd zBr zBN zEE VCall
set_option maxHeartbeats 4000000 in
theorem zJh {L : List Nd} {E : List Sg} {q : Nat} (hL : L.length ≤ 2000000) (n : Nat) (x : Nd) (ks : List Tr) (N N' : List Lc) (S S' : TS) (r : List Nd) (hx : L[n]? = some x) (hA : Ask E N S 1) (hk : x.kind ≠ 24) (hk2 : 21 ≤ x.kind ∧ x.kind ≤ 24) (h : (Tr.mk x ks).patS q E N S = some (r,N',S')) :
    (x.kind ≠ 22 → zA2 Tryz.prog 70 [.ptr 0 0,.d (i64 (n : Int)),.d (tslN N)] (tyO L E S) (.pair (.d (zAc r)) (.d (tslN N))) (tyO L E S')) ∧
    (x.kind = 22 → zA2 Tryz.prog 70 [.ptr 0 0,.d (i64 (n : Int)),.d (tslN N)] (tyO L E S ++ [bufN []]) (.pair (.d (zAc r)) (.buf 3 (lnN N'))) (tyO L E S' ++ [bufN N'])) ∧
    zA2 Tryz.prog 70 [.ptr 0 0,.d (i64 (n : Int)),.buf 3 (lnN N)] (tyO L E S ++ [bufN N]) (.pair (.d (zAc r)) (.buf 3 (lnN N'))) (tyO L E S' ++ [bufN N']):=by
  have hnx:=zFA L E S (by have:=hA.nx;omega)
  have hlen : n < L.length:=(List.getElem?_eq_some_iff.1 hx).1
  have hpl:=zED intT
  have hcap : (lnN N + [Lc.av ⟨x.text,varN S.nx,[]⟩].length) * 64 ≤ 140737488355328 ∧ lnN N + [Lc.av ⟨x.text,varN S.nx,[]⟩].length ≤ 140737488355328:=by
    have:=hA.n
    simp only [lnN,List.length_map,List.length_cons,List.length_nil];omega
  have hc : x.kind = 23 ∨ x.kind = 21 ∨ x.kind = 22:=by omega
  rcases hc with hc | hc | hc
  · obtain ⟨rfl,rfl,rfl⟩:=zTa hc h
    refine ⟨fun _=>?_,fun h=>absurd h (by omega),?_⟩
    · refine zA1 Tryz.func70 rfl Tryz.ntmps70 Tryz.results70 rfl rfl rfl ?_
      intro wb St0 X fx
      repeat' first | apply en_n|apply zAH|apply zAB|apply zAF|apply w0|(apply zBD;exact rfl;exact rfl;first|assumption|omega)|exact zAo rfl|(refine zAV zDn hpl (zAX rfl zAG))|(apply aJ (hd:=rfl);(first|exact zAk rfl|exact Co_bb rfl rfl rfl|exact Co_nn rfl);exact rfl;(with_reducible exact zAW);assumption;omega;exact fun _=>rfl)|(apply zA4 (hd:=rfl) (hro:=rfl);(with_reducible exact zAp))|apply ay (hd:=rfl)|exact zAE rfl|exact zAC rfl|(apply zAf;exact rfl;(with_reducible exact zAY);exact rfl)|exact zAb rfl|exact zAZ rfl|(apply zAR;exact rfl;(with_reducible first|exact fy_1|exact fn_0))|(apply zAU;exact rfl;(with_reducible first|exact zAn|exact zAe);exact rfl;exact rfl)|(refine w0' ?_)|(apply zAx;exact rfl;exact rfl;exact rfl;(with_reducible exact zAY);exact rfl;exact rfl;exact rfl;exact rfl)|exact zAK rfl|apply zAI|apply zAM|apply en_r|apply eb_r
      exact zAq ⟨zAO (zAA rfl (zAA rfl zAa)) (zAD rfl rfl (zAD rfl rfl (zAD rfl rfl zAN))) rfl rfl,rfl⟩
    · refine zA1 Tryz.func70 rfl Tryz.ntmps70 Tryz.results70 rfl rfl rfl ?_
      intro wb St0 X fx
      repeat' first | apply en_n|apply zAH|apply zAB|apply zAF|apply w0|(apply zBD;exact rfl;exact rfl;first|assumption|omega)|exact zAo rfl|(refine zAV zDn hpl (zAX rfl zAG))|(apply aJ (hd:=rfl);(first|exact zAk rfl|exact Co_bb rfl rfl rfl|exact Co_nn rfl);exact rfl;(with_reducible exact zAW);assumption;omega;exact fun _=>rfl)|(apply zA4 (hd:=rfl) (hro:=rfl);(with_reducible exact zAp))|apply ay (hd:=rfl)|exact zAE rfl|exact zAC rfl|(apply zAf;exact rfl;(with_reducible exact zAY);exact rfl)|exact zAb rfl|exact zAw rfl|exact zAm rfl|exact zAZ rfl|(apply zAR;exact rfl;(with_reducible first|exact fy_1|exact fn_0))|(apply zAU;exact rfl;(with_reducible first|exact zAn|exact zAe);exact rfl;exact rfl)|(refine w0' ?_)|(apply zAx;exact rfl;exact rfl;exact rfl;(with_reducible exact zAY);exact rfl;exact rfl;exact rfl;exact rfl)|exact zAK rfl|apply zAI|apply zAM|apply en_r|apply eb_r
      exact zAq ⟨zAO (zAA rfl (zAA rfl zAa)) (zAD rfl rfl (zAD rfl rfl (zAD rfl rfl (zAu rfl rfl rfl zAN)))) rfl rfl,rfl⟩
  · obtain ⟨rfl,rfl,rfl⟩:=zTc hc h
    refine ⟨fun _=>?_,fun h=>absurd h (by omega),?_⟩
    · refine zA1 Tryz.func70 rfl Tryz.ntmps70 Tryz.results70 rfl rfl rfl ?_
      intro wb St0 X fx
      repeat' first | apply en_n|apply zAH|apply zAB|apply zAF|apply w0|(apply zBD;exact rfl;exact rfl;first|assumption|omega)|(apply zA9;exact rfl;exact rfl;first|assumption|omega)|exact zAo rfl|(refine zA3 [0,1,2] zD2 (hnx) ?_ rfl rfl (by decide) rfl rfl rfl rfl rfl rfl ?_;(repeat (refine zAL rfl ?_));exact zAS)|(apply aJ (hd:=rfl);(first|exact zAk rfl|exact Co_bb rfl rfl rfl|exact Co_nn rfl);exact rfl;(with_reducible exact zAW);assumption;omega;exact fun _=>rfl)|(apply zA4 (hd:=rfl) (hro:=rfl);(with_reducible exact zAp))|apply ay (hd:=rfl)|exact zAE rfl|exact zAC rfl|(apply zAf;exact rfl;(with_reducible exact zAY);exact rfl)|exact zAb rfl|exact zAZ rfl|(apply zAR;exact rfl;(with_reducible first|exact fy_1|exact fn_0))|(apply zAU;exact rfl;(with_reducible first|exact zAn|exact zAe);exact rfl;exact rfl)|(refine w0' ?_)|(apply zAx;exact rfl;exact rfl;exact rfl;(with_reducible exact zAY);exact rfl;exact rfl;exact rfl;exact rfl)|exact zAK rfl|exact zAQ rfl|apply zAI|apply zAM|apply en_r|apply eb_r
      exact zAq ⟨zAO (zAA rfl (zAA rfl zAa)) (zAD rfl rfl (zAD rfl rfl (zAD rfl rfl zAN))) rfl rfl,rfl⟩
    · refine zA1 Tryz.func70 rfl Tryz.ntmps70 Tryz.results70 rfl rfl rfl ?_
      intro wb St0 X fx
      repeat' first | apply en_n|apply zAH|apply zAB|apply zAF|apply w0|(apply zBD;exact rfl;exact rfl;first|assumption|omega)|(apply zA9;exact rfl;exact rfl;first|assumption|omega)|exact zAo rfl|(refine zA3 [0,1,2] zD2 (hnx) ?_ rfl rfl (by decide) rfl rfl rfl rfl rfl rfl ?_;(repeat (refine zAL rfl ?_));exact zAS)|(apply aJ (hd:=rfl);(first|exact zAk rfl|exact Co_bb rfl rfl rfl|exact Co_nn rfl);exact rfl;(with_reducible exact zAW);assumption;omega;exact fun _=>rfl)|(apply zA4 (hd:=rfl) (hro:=rfl);(with_reducible exact zAp))|apply ay (hd:=rfl)|exact zAE rfl|exact zAC rfl|(apply zAf;exact rfl;(with_reducible exact zAY);exact rfl)|exact zAb rfl|exact zAw rfl|exact zAm rfl|exact zAZ rfl|(apply zAR;exact rfl;(with_reducible first|exact fy_1|exact fn_0))|(apply zAU;exact rfl;(with_reducible first|exact zAn|exact zAe);exact rfl;exact rfl)|(refine w0' ?_)|(apply zAx;exact rfl;exact rfl;exact rfl;(with_reducible exact zAY);exact rfl;exact rfl;exact rfl;exact rfl)|exact zAK rfl|exact zAQ rfl|apply zAI|apply zAM|apply en_r|apply eb_r
      exact zAq ⟨zAO (zAA rfl (zAA rfl zAa)) (zAD rfl rfl (zAD rfl rfl (zAD rfl rfl (zAu rfl rfl rfl zAN)))) rfl rfl,rfl⟩
  · obtain ⟨rfl,rfl,rfl⟩:=zTb hc h
    refine ⟨fun h=>absurd hc h,fun _=>?_,?_⟩
    · refine zA1 Tryz.func70 rfl Tryz.ntmps70 Tryz.results70 rfl rfl rfl ?_
      intro wb St0 X fx
      repeat' first | (apply zUI (ys:=[Lc.av ⟨x.text,varN S.nx,[]⟩]) (id:=3) (xs0:=[]) (hd:=rfl) (hro:=rfl);exact rfl;exact rfl;exact zAk rfl;exact rfl;(with_reducible exact zCY);(with_reducible exact zBw);(with_reducible exact zHB);(with_reducible exact zFK);exact zDH N;exact zCA rfl;exact hcap)|apply en_n|apply zAH|apply zAB|apply zAF|apply w0|(apply zBD;exact rfl;exact rfl;first|assumption|omega)|(apply zA9;exact rfl;exact rfl;first|assumption|omega)|exact zAo rfl|(refine zA3 [0,1,2] zD2 (hnx) ?_ rfl rfl (by decide) rfl rfl rfl rfl rfl rfl ?_;(repeat (refine zAL rfl ?_));exact zAS)|(apply zBE (cs:=Lc.cells ⟨x.text,varN S.nx,[]⟩);exact zHE;exact zEz;exact PD_d rfl rfl (PD_d rfl rfl (PD_n rfl zBy));exact rfl)|(apply aJ (hd:=rfl);(first|exact zAk rfl|exact Co_bb rfl rfl rfl|exact Co_nn rfl);exact rfl;(with_reducible exact zAW);assumption;omega;exact fun _=>rfl)|(apply zA4 (hd:=rfl) (hro:=rfl);(with_reducible exact zAp))|apply ay (hd:=rfl)|exact zAE rfl|exact zAC rfl|(apply zAf;exact rfl;(with_reducible exact zAY);exact rfl)|exact zAb rfl|exact zAm rfl|exact zAZ rfl|(apply zAR;exact rfl;(with_reducible first|exact fy_1|exact fn_0|exact fn_1))|(apply zAU;exact rfl;(with_reducible first|exact zAn|exact zAe|exact zAv);exact rfl;exact rfl)|(apply zB8;(with_reducible exact zCY);(with_reducible exact zBw);(with_reducible exact zHl);exact rfl;exact rfl;(first|exact zAX rfl zAG|exact zCx rfl rfl rfl zAG|exact zDB rfl zAG);exact rfl)|(refine w0' ?_)|(apply zAx;exact rfl;exact rfl;exact rfl;(with_reducible exact zAY);exact rfl;exact rfl;exact rfl;exact rfl)|exact zAK rfl|exact zAQ rfl|apply zAI|apply zAM|apply en_r|apply eb_r
      exact zAq ⟨zAO (zAA rfl (zBq rfl (by simp) zAa)) (zAD rfl rfl (zAD rfl rfl (zAD rfl rfl (zAu rfl rfl (by rw [List.map_append];rfl) zAN)))) rfl rfl,rfl⟩
    · refine zA1 Tryz.func70 rfl Tryz.ntmps70 Tryz.results70 rfl rfl rfl ?_
      intro wb St0 X fx
      repeat' first | apply en_n|apply zAH|apply zAB|apply zAF|apply w0|(apply zBD;exact rfl;exact rfl;first|assumption|omega)|(apply zA9;exact rfl;exact rfl;first|assumption|omega)|exact zAo rfl|(refine zA3 [0,1,2] zD2 (hnx) ?_ rfl rfl (by decide) rfl rfl rfl rfl rfl rfl ?_;(repeat (refine zAL rfl ?_));exact zAS)|(apply aApp (id:=3) (hd:=rfl) (hro:=rfl);exact rfl;exact rfl;(first|exact zAk rfl|exact Co_bb rfl rfl rfl|exact Co_nn rfl);(first|exact rfl|exact (by simp));exact rfl;(with_reducible exact zCY);(with_reducible exact zBw);(with_reducible exact zHB);(with_reducible exact zFK);(first|exact zCC (fun _=>rfl)|exact zCA rfl))|(apply zBE (cs:=Lc.cells ⟨x.text,varN S.nx,[]⟩);exact zHE;exact zEz;exact PD_d rfl rfl (PD_d rfl rfl (PD_n rfl zBy));exact rfl)|(apply aJ (hd:=rfl);(first|exact zAk rfl|exact Co_bb rfl rfl rfl|exact Co_nn rfl);exact rfl;(with_reducible exact zAW);assumption;omega;exact fun _=>rfl)|(apply zA4 (hd:=rfl) (hro:=rfl);(with_reducible exact zAp))|apply ay (hd:=rfl)|exact zAE rfl|exact zAC rfl|(apply zAf;exact rfl;(with_reducible exact zAY);exact rfl)|exact zAb rfl|exact zAw rfl|exact zAm rfl|exact zAZ rfl|(apply zAR;exact rfl;(with_reducible first|exact fy_1|exact fn_0|exact fn_1))|(apply zAU;exact rfl;(with_reducible first|exact zAn|exact zAe|exact zAv);exact rfl;exact rfl)|(apply zB8;(with_reducible exact zCY);(with_reducible exact zBw);(with_reducible exact zHl);exact rfl;exact rfl;(first|exact zAX rfl zAG|exact zCx rfl rfl rfl zAG|exact zDB rfl zAG);exact rfl)|(refine w0' ?_)|(apply zAx;exact rfl;exact rfl;exact rfl;(with_reducible exact zAY);exact rfl;exact rfl;exact rfl;exact rfl)|exact zAK rfl|exact zAQ rfl|apply zAI|apply zAM|apply en_r|apply eb_r
      all_goals first | exact hcap | skip
      exact zAq ⟨zAO (zAA rfl (zBq rfl (by simp) zAa)) (zAD rfl rfl (zAD rfl rfl (zAD rfl rfl (zAu rfl rfl (by rw [List.map_append];rfl) zAN)))) rfl rfl,rfl⟩
end Go.Proofs.YtblomnkamngnbaaGreatDoor
namespace Go.Proofs.YtblomnkamngnbaaGreatDoor
open Go.Sx
theorem zJf {ks : List Tr} {i : Nat} {k : Tr} (h : ks[i]? = some k) : pvL (ks.drop i) = k.pv + pvL (ks.drop (i + 1)):=by
  obtain ⟨hi,rfl⟩:=List.getElem?_eq_some_iff.1 h
  rw [List.drop_eq_getElem_cons hi,pvL]
attribute [local irreducible] zAT Program.underlying Ylds zBA alex zBc zBO awp zAj zBX RCall zA2 zBH zBQ zA8 zBT zBZ zBd zBr zBN zEE VCall
abbrev nmS : Bool → List Lc → List Lc → SV
  | false,N,_=>.d (tslN N)
  | true,_,N=>.buf 3 (lnN N)
abbrev nmO : Bool → List Lc → Ob
  | false,_=>bufN []
  | true,N=>bufN N
structure PatAt (E : List Sg) (q : Nat) (A : List (List Nd)) (ks : List Tr) (N2 : List Lc) (S2 : TS) (i : Nat) (N : List Lc) (S : TS) : Prop where
  le : i ≤ ks.length
  run : patL q E (A.drop i) (ks.drop i) N S = some (N2,S2)
  ask : Ask E N S (szL (ks.drop i))
theorem PatAt.one {E : List Sg} {q : Nat} {A : List (List Nd)} {x : Nd} {ks : List Tr} {N2 : List Lc} {S2 : TS} {i : Nat} {N : List Lc} {S : TS} {k : Tr} (h : PatAt E q A ks N2 S2 i N S) (hk : ks[i]? = some k) (hw : zDX (decide (x.kind = 10)) true ks 0 = 0) :
    k.werr true = 0 ∧ Ask E N S k.sz ∧ ∃ a t N1 S1 S3,A[i]? = some a ∧ k.patS q E N S = some (t,N1,S1) ∧ zDP q S1 t a = some S3 ∧ PatAt E q A ks N2 S2 (i + 1) N1 S3 ∧ StoB S1.st ∧ t.length ≤ 10000 ∧ (k.pv = 0 → N1 = N):=by
  have hwk : k.werr true = 0:=by simpa using zBY (j:=i) hw hk
  have hi:=(List.getElem?_eq_some_iff.1 hk).1
  have hdr:=zDV hk
  obtain ⟨a,t,N1,S1,S3,h1,h2,h3,h4⟩:=zOw hk h.run
  have hA:=h.ask
  rw [hdr] at hA
  obtain ⟨b1,b2,b3,M,b4,b5⟩:=zJi hA.t k.sz k (Nat.le_refl _) hwk hA.ok h2
  have c1:=zB9 h3
  have hpv : k.pv ≤ k.sz:=by
    have key : ∀ (m : Nat) (t : Tr),t.sz ≤ m → t.pv ≤ t.sz:=by
      intro m
      induction m with
      | zero=>intro t h;have:=zBR t;omega
      | succ m ih =>
        intro t h
        match t,h with
        | .mk x ks,h =>
          rw [Tr.sz] at h
          have hl : ∀ ks : List Tr,szL ks ≤ m → pvL ks ≤ szL ks:=by
            intro ks
            induction ks with
            | nil=>intro _;simp [pvL]
            | cons k ks ihk =>
              intro h
              rw [szL] at h
              rw [pvL,szL]
              have:=ih k (by omega)
              have:=ihk (by omega)
              omega
          have:=hl ks (by omega)
          rw [Tr.pv,Tr.sz]
          split
          · omega
          · split <;> omega
    exact key _ k (Nat.le_refl _)
  refine ⟨hwk,⟨hA.e,hA.t,by have:=hA.n;omega,hA.ok,hA.st,by have:=hA.nx;have:=zBR k;omega⟩,a,t,N1,S1,S3,h1,h2,h3,⟨hi,h4,⟨hA.e,hA.t,?_,b3,c1.st (b1.st hA.st),?_⟩⟩,b1.st hA.st,b2,fun h0=>?_⟩
  · have:=hA.n;rw [b4,List.length_append,b5];omega
  · have:=hA.nx;have:=b1.lo;have:=b1.hi;have:=c1.lo;have:=c1.hi;omega
  · rw [b4,List.eq_nil_of_length_eq_zero (b5.trans h0),List.append_nil]
theorem PatAt.start {E : List Sg} {q : Nat} {x : Nd} {ks : List Tr} {N N' : List Lc} {S S' : TS} {r : List Nd} (hk : x.kind = 24) (hA : Ask E N S (Tr.mk x ks).sz) (h : (Tr.mk x ks).patS q E N S = some (r,N',S')) :
    ∃ c S1,zKL E S x.text = some (c,S1) ∧ r = (zCG c).2 ∧ c.length ≤ 10000 ∧ PatAt E q (zCG c).1 ks N' S' 0 N S1:=by
  obtain ⟨c,S1,h1,h2,h3⟩:=zTZ hk h
  obtain ⟨b1,b2⟩:=zJU hA.t h1
  have hsz : (Tr.mk x ks).sz = szL ks + 1:=by rw [Tr.sz]
  rw [hsz] at hA
  refine ⟨c,S1,h1,h3,b2,Nat.zero_le _,by simpa using h2,hA.e,hA.t,by rw [List.drop_zero];have:=hA.n;omega,hA.ok,b1.st hA.st,?_⟩
  rw [List.drop_zero]
  have:=hA.nx;have:=b1.lo;have:=b1.hi
  omega
set_option maxHeartbeats 4000000 in
theorem zQz {L : List Nd} {E : List Sg} {q m : Nat} (hL : L.length ≤ 2000000) (ih : PatOk L E q m) (n : Nat) (x : Nd) (ks : List Tr) (N N' : List Lc) (S S' : TS) (r : List Nd) (hk : x.kind = 24) (hm : (Tr.mk x ks).sz ≤ m + 1) (h : At L n (.mk x ks)) (hw : (Tr.mk x ks).werr true = 0) (hA : Ask E N S (Tr.mk x ks).sz) (hp : (Tr.mk x ks).patS q E N S = some (r,N',S')) (hv : (Tr.mk x ks).pv = 0) :
    zA2 Tryz.prog 70 [.ptr 0 0,.d (i64 (n : Int)),.d (tslN N)] (tyO L E S) (.pair (.d (zAc r)) (.d (tslN N))) (tyO L E S'):=by
  have hx:=h.here
  have hlen : n < L.length:=(List.getElem?_eq_some_iff.1 hx).1
  obtain ⟨c,S1,h1,rfl,hcl,hP⟩:=PatAt.start hk hA hp
  have hwk:=(zC0 hw).2
  rw [Tr.pv,if_neg (by omega),if_pos hk] at hv
  have htd:=zJT L E S S1 x.text c hA.e hA.t (by have:=hA.nx;omega) h1
  have hpf:=zFQ c (by omega)
  have hpa:=(zFX c).1
  have hkid:=zCa L (n : Int) hL
  have hkl:=h.kids_len
  have hkg : ∀ i,i < ks.length → (zBV L (n : Int))[i]? = some ((kidAt n ks i : Nat) : Int):=fun i hi=>h.kids_get hi
  have hat : ∀ i k,ks[i]? = some k → At L (kidAt n ks i) k:=fun i k hik=>h.kid hik
  have hsz : (Tr.mk x ks).sz = szL ks + 1:=by rw [Tr.sz]
  have hl24 : ks.length ≤ szL ks:=zDx ks
  have hLl:=h.len
  generalize (zCG c).1 = A at *
  generalize (zCG c).2 = to' at *
  generalize zBV L (n : Int) = KK at *
  clear hp hw h1
  refine zA1 Tryz.func70 rfl Tryz.ntmps70 Tryz.results70 rfl rfl rfl ?_
  intro wb St0 X fx
  repeat' first | apply en_n|apply zAH|apply zAB|apply zAF|apply w0|(apply zA9;exact rfl;exact rfl;first|assumption|omega)|exact zAo rfl|(refine zA3 [0,1,2] zJp (htd) ?_ rfl rfl (by decide) rfl rfl rfl rfl rfl rfl ?_;(repeat (refine zAL rfl ?_));exact zAS)|(refine zAV zEs hpf (zAX rfl zAG))|(refine zAV zCV hkid (zAX rfl (zAX rfl zAG)))|(apply aJ (hd:=rfl);(first|exact zAk rfl|exact Co_bb rfl rfl rfl|exact Co_nn rfl);exact rfl;(with_reducible exact zAW);assumption;omega;exact fun _=>rfl)|(apply zA4 (hd:=rfl) (hro:=rfl);(with_reducible exact zAp))|apply ay (hd:=rfl)|exact zAE rfl|exact zAC rfl|(apply zAf;exact rfl;(with_reducible exact zAY);exact rfl)|(apply zAl;exact rfl;(with_reducible exact zBt))|exact zBP rfl rfl|exact zAb rfl|exact zAZ rfl|(apply zAR;exact rfl;(with_reducible first|exact fy_1|exact fn_0|exact fn_1))|(apply zAU;exact rfl;(with_reducible first|exact zAn|exact zAe|exact zAv);exact rfl;exact rfl)|(refine w0' ?_)|(apply zAx;exact rfl;exact rfl;exact rfl;(with_reducible exact zAY);exact rfl;exact rfl;exact rfl;exact rfl)|exact zAQ rfl|apply zAI|apply zAP|apply eb_n
  refine zAr (α:=Nat × TS) (fun p=>PatAt E q A ks N' S' p.1 N p.2 ∧ pvL (ks.drop p.1) = 0) (fun p=>[(0,.ptr 0 0),(2,.d (tslN N)),(10,.d (zFk A)),(11,.d (zAc to')),(58,.d (zBj KK)),(59,.d (i64 (ks.length : Int))),(60,.d (i64 (p.1 : Int)))]) (fun p=>anch fx 0 (tyO L E S) (tyO L E p.2)) (fun p=>ks.length - p.1) (0,S1) ⟨hP,by simpa using hv⟩
    (zAO (zAA rfl (zAA rfl (zAA rfl (zAA rfl (zAA rfl (Le_d rfl (by rw [← hkl]) (zAA rfl zAa))))))) (zAD rfl rfl (zAD rfl rfl (zAD rfl rfl zAN))) rfl rfl) ?_
  rintro ⟨i,Si⟩ ⟨hPi,hvi⟩
  dsimp only at hPi hvi ⊢
  rcases Nat.lt_or_ge i ks.length with hlt | hge
  · have hik : ks[i]? = some ks[i]:=List.getElem?_eq_getElem hlt
    generalize ks[i] = k at hik
    obtain ⟨w1,w2,a,t,N1,S2,S3,g1,g2,g3,g4,g5,g6,g7⟩:=hPi.one hik hwk
    have hkv : k.pv = 0:=by rw [zJf hik] at hvi;omega
    have hvn : pvL (ks.drop (i + 1)) = 0:=by rw [zJf hik] at hvi;omega
    have hN1:=g7 hkv
    subst hN1
    have hkk:=hkg i hlt
    have hcp:=ih.a (kidAt n ks i) k N1 N1 Si S2 t (by have:=zCi (List.mem_of_getElem? hik);omega) (hat i k hik) w1 w2 g2 hkv
    have hal:=(List.getElem?_eq_some_iff.1 g1).1
    have hsm:=zC6 L E S2 S3 q t a (by omega) (by have:=hpa a (List.mem_of_getElem? g1);omega) g5 g3
    clear hP hA hPi hkg hat
    skip
    repeat' first | apply en_n|apply zAH|apply zAB|apply zAF|apply w0|(apply zA5;exact rfl;exact rfl;first|assumption|omega)|exact zCJ rfl|exact zFo rfl|exact zFn rfl|(refine zA3 [0,1,2] zFx (hcp) ?_ rfl rfl (by decide) rfl rfl rfl rfl rfl rfl ?_;(repeat (refine zAL rfl ?_));exact zAS)|(refine zA3 [0,1,2] zCN (hsm) ?_ rfl rfl (by decide) rfl rfl rfl rfl rfl rfl ?_;(repeat (refine zAL rfl ?_));exact zAS)|(apply aJ (hd:=rfl);(first|exact zAk rfl|exact Co_bb rfl rfl rfl|exact Co_nn rfl);exact rfl;(with_reducible first|exact zA7|exact zCP);assumption;omega;exact fun _=>rfl)|apply ay (hd:=rfl)|exact zAE rfl|exact zAC rfl|(apply zAg;exact rfl;(with_reducible first|exact zAs|exact zAn))|exact zBC rfl rfl|exact zAb rfl|exact zAZ rfl|exact zAK rfl|apply zAI|apply zAP|apply eb_n
    all_goals first | omega | skip
    exact ⟨(i + 1,S3),⟨g4,hvn⟩,by show ks.length - (i + 1) < _;omega,zAO (zAA rfl (zAA rfl (zAA rfl (zAA rfl (zAA rfl (zAA rfl (zAA rfl zAa))))))) (zAD rfl rfl (zAD rfl rfl (zAD rfl rfl zAN))) rfl rfl⟩
  · have hrun:=hPi.run
    rw [List.drop_of_length_le hge,patL.eq_1] at hrun
    injection hrun with hrun;injection hrun with e1 e2;subst e1;subst e2
    skip
    repeat' first | apply en_n|apply zAH|apply zAB|apply zAF|apply w0|(apply zBn;exact rfl;exact rfl;first|assumption|omega)|apply ay (hd:=rfl)|exact zAE rfl|exact zAC rfl|exact zAQ rfl|apply zAM|apply zAt|apply en_e|apply eb_e
    exact zAq ⟨zAO (zAA rfl (zAA rfl zAa)) (zAD rfl rfl (zAD rfl rfl (zAD rfl rfl zAN))) rfl rfl,rfl⟩
set_option maxHeartbeats 4000000 in
theorem zQx {L : List Nd} {E : List Sg} {q m : Nat} (hL : L.length ≤ 2000000) (ih : PatOk L E q m) (n : Nat) (x : Nd) (ks : List Tr) (N N' : List Lc) (S S' : TS) (r : List Nd) (hk : x.kind = 24) (hm : (Tr.mk x ks).sz ≤ m + 1) (h : At L n (.mk x ks)) (hw : (Tr.mk x ks).werr true = 0) (hA : Ask E N S (Tr.mk x ks).sz) (hp : (Tr.mk x ks).patS q E N S = some (r,N',S')) :
    zA2 Tryz.prog 70 [.ptr 0 0,.d (i64 (n : Int)),.buf 3 (lnN N)] (tyO L E S ++ [bufN N]) (.pair (.d (zAc r)) (.buf 3 (lnN N'))) (tyO L E S' ++ [bufN N']):=by
  have hx:=h.here
  have hlen : n < L.length:=(List.getElem?_eq_some_iff.1 hx).1
  obtain ⟨c,S1,h1,rfl,hcl,hP⟩:=PatAt.start hk hA hp
  have hwk:=(zC0 hw).2
  have htd:=zJT L E S S1 x.text c hA.e hA.t (by have:=hA.nx;omega) h1
  have hpf:=zFQ c (by omega)
  have hpa:=(zFX c).1
  have hkid:=zCa L (n : Int) hL
  have hkl:=h.kids_len
  have hkg : ∀ i,i < ks.length → (zBV L (n : Int))[i]? = some ((kidAt n ks i : Nat) : Int):=fun i hi=>h.kids_get hi
  have hat : ∀ i k,ks[i]? = some k → At L (kidAt n ks i) k:=fun i k hik=>h.kid hik
  have hsz : (Tr.mk x ks).sz = szL ks + 1:=by rw [Tr.sz]
  have hl24 : ks.length ≤ szL ks:=zDx ks
  have hLl:=h.len
  generalize (zCG c).1 = A at *
  generalize (zCG c).2 = to' at *
  generalize zBV L (n : Int) = KK at *
  clear hp hw h1
  refine zA1 Tryz.func70 rfl Tryz.ntmps70 Tryz.results70 rfl rfl rfl ?_
  intro wb St0 X fx
  repeat' first | apply en_n|apply zAH|apply zAB|apply zAF|apply w0|(apply zA9;exact rfl;exact rfl;first|assumption|omega)|exact zAo rfl|(refine zA3 [0,1,2] zJp (htd) ?_ rfl rfl (by decide) rfl rfl rfl rfl rfl rfl ?_;(repeat (refine zAL rfl ?_));exact zAS)|(refine zAV zEs hpf (zAX rfl zAG))|(refine zAV zCV hkid (zAX rfl (zAX rfl zAG)))|(apply aJ (hd:=rfl);(first|exact zAk rfl|exact Co_bb rfl rfl rfl|exact Co_nn rfl);exact rfl;(with_reducible exact zAW);assumption;omega;exact fun _=>rfl)|(apply zA4 (hd:=rfl) (hro:=rfl);(with_reducible exact zAp))|apply ay (hd:=rfl)|exact zAE rfl|exact zAC rfl|(apply zAf;exact rfl;(with_reducible exact zAY);exact rfl)|(apply zAl;exact rfl;(with_reducible exact zBt))|exact zBP rfl rfl|exact zAb rfl|exact zAZ rfl|(apply zAR;exact rfl;(with_reducible first|exact fy_1|exact fn_0|exact fn_1))|(apply zAU;exact rfl;(with_reducible first|exact zAn|exact zAe|exact zAv);exact rfl;exact rfl)|(refine w0' ?_)|(apply zAx;exact rfl;exact rfl;exact rfl;(with_reducible exact zAY);exact rfl;exact rfl;exact rfl;exact rfl)|exact zAQ rfl|apply zAI|apply zAP|apply eb_n
  refine zAr (α:=Nat × List Lc × TS) (fun p=>PatAt E q A ks N' S' p.1 p.2.1 p.2.2) (fun p=>[(0,.ptr 0 0),(2,.buf 3 (lnN p.2.1)),(10,.d (zFk A)),(11,.d (zAc to')),(58,.d (zBj KK)),(59,.d (i64 (ks.length : Int))),(60,.d (i64 (p.1 : Int)))]) (fun p=>anch fx 0 (tyO L E S ++ [bufN N]) (tyO L E p.2.2 ++ [bufN p.2.1])) (fun p=>ks.length - p.1) (0,N,S1) hP
    (zAO (zAA rfl (zAA rfl (zAA rfl (zAA rfl (zAA rfl (Le_d rfl (by rw [← hkl]) (zAA rfl zAa))))))) (zAD rfl rfl (zAD rfl rfl (zAD rfl rfl (zAu rfl rfl rfl zAN)))) rfl rfl) ?_
  rintro ⟨i,Ni,Si⟩ hPi
  dsimp only at hPi ⊢
  rcases Nat.lt_or_ge i ks.length with hlt | hge
  · have hik : ks[i]? = some ks[i]:=List.getElem?_eq_getElem hlt
    generalize ks[i] = k at hik
    obtain ⟨w1,w2,a,t,N1,S2,S3,g1,g2,g3,g4,g5,g6,g7⟩:=hPi.one hik hwk
    have hkk:=hkg i hlt
    have hcp:=ih.c (kidAt n ks i) k Ni N1 Si S2 t (by have:=zCi (List.mem_of_getElem? hik);omega) (hat i k hik) w1 w2 g2
    have hal:=(List.getElem?_eq_some_iff.1 g1).1
    have hsm:=zC6 L E S2 S3 q t a (by omega) (by have:=hpa a (List.mem_of_getElem? g1);omega) g5 g3
    clear hP hA hPi hkg hat
    skip
    repeat' first | apply en_n|apply zAH|apply zAB|apply zAF|apply w0|(apply zA5;exact rfl;exact rfl;first|assumption|omega)|exact zCJ rfl|exact zFo rfl|exact zFn rfl|(refine zA3 [0,1,2,3] zFx (hcp) ?_ rfl rfl (by decide) rfl rfl rfl rfl rfl rfl ?_;(repeat (refine zAL rfl ?_));exact zAS)|(refine zA3 [0,1,2] zCN (hsm) ?_ rfl rfl (by decide) rfl rfl rfl rfl rfl rfl ?_;(repeat (refine zAL rfl ?_));exact zAS)|(apply aJ (hd:=rfl);(first|exact zAk rfl|exact Co_bb rfl rfl rfl|exact Co_nn rfl);exact rfl;(with_reducible first|exact zA7|exact zCP);assumption;omega;exact fun _=>rfl)|apply ay (hd:=rfl)|exact zAE rfl|exact zAC rfl|(apply zAg;exact rfl;(with_reducible first|exact zAs|exact zAn))|exact zBC rfl rfl|exact zAb rfl|exact zAw rfl|exact zAm rfl|exact zAZ rfl|exact zAK rfl|apply zAI|apply zAP|apply eb_n
    all_goals first | omega | skip
    exact ⟨(i + 1,N1,S3),g4,by show ks.length - (i + 1) < _;omega,zAO (zAA rfl (zAA rfl (zAA rfl (zAA rfl (zAA rfl (zAA rfl (zAA rfl zAa))))))) (zAD rfl rfl (zAD rfl rfl (zAD rfl rfl (zAu rfl rfl rfl zAN)))) rfl rfl⟩
  · have hrun:=hPi.run
    rw [List.drop_of_length_le hge,patL.eq_1] at hrun
    injection hrun with hrun;injection hrun with e1 e2;subst e1;subst e2
    skip
    repeat' first | apply en_n|apply zAH|apply zAB|apply zAF|apply w0|(apply zBn;exact rfl;exact rfl;first|assumption|omega)|apply ay (hd:=rfl)|exact zAE rfl|exact zAC rfl|exact zAw rfl|exact zAm rfl|exact zAQ rfl|apply zAM|apply zAt|apply en_e|apply eb_e
    exact zAq ⟨zAO (zAA rfl (zAA rfl zAa)) (zAD rfl rfl (zAD rfl rfl (zAD rfl rfl (zAu rfl rfl rfl zAN)))) rfl rfl,rfl⟩
set_option maxHeartbeats 4000000 in
theorem zQy {L : List Nd} {E : List Sg} {q m : Nat} (hL : L.length ≤ 2000000) (ih : PatOk L E q m) (n : Nat) (x : Nd) (ks : List Tr) (N N' : List Lc) (S S' : TS) (r : List Nd) (hk : x.kind = 24) (hm : (Tr.mk x ks).sz ≤ m + 1) (h : At L n (.mk x ks)) (hw : (Tr.mk x ks).werr true = 0) (hA : Ask E N S (Tr.mk x ks).sz) (hp : (Tr.mk x ks).patS q E N S = some (r,N',S')) (hv : (Tr.mk x ks).pv ≠ 0) :
    zA2 Tryz.prog 70 [.ptr 0 0,.d (i64 (n : Int)),.d (tslN N)] (tyO L E S ++ [bufN []]) (.pair (.d (zAc r)) (.buf 3 (lnN N'))) (tyO L E S' ++ [bufN N']):=by
  have hx:=h.here
  have hlen : n < L.length:=(List.getElem?_eq_some_iff.1 hx).1
  obtain ⟨c,S1,h1,rfl,hcl,hP⟩:=PatAt.start hk hA hp
  have hwk:=(zC0 hw).2
  rw [Tr.pv,if_neg (by omega),if_pos hk] at hv
  have htd:=zJT L E S S1 x.text c hA.e hA.t (by have:=hA.nx;omega) h1
  have hpf:=zFQ c (by omega)
  have hpa:=(zFX c).1
  have hkid:=zCa L (n : Int) hL
  have hkl:=h.kids_len
  have hkg : ∀ i,i < ks.length → (zBV L (n : Int))[i]? = some ((kidAt n ks i : Nat) : Int):=fun i hi=>h.kids_get hi
  have hat : ∀ i k,ks[i]? = some k → At L (kidAt n ks i) k:=fun i k hik=>h.kid hik
  have hsz : (Tr.mk x ks).sz = szL ks + 1:=by rw [Tr.sz]
  have hl24 : ks.length ≤ szL ks:=zDx ks
  have hLl:=h.len
  generalize (zCG c).1 = A at *
  generalize (zCG c).2 = to' at *
  generalize zBV L (n : Int) = KK at *
  clear hp hw h1
  refine zA1 Tryz.func70 rfl Tryz.ntmps70 Tryz.results70 rfl rfl rfl ?_
  intro wb St0 X fx
  repeat' first | apply en_n|apply zAH|apply zAB|apply zAF|apply w0|(apply zA9;exact rfl;exact rfl;first|assumption|omega)|exact zAo rfl|(refine zA3 [0,1,2] zJp (htd) ?_ rfl rfl (by decide) rfl rfl rfl rfl rfl rfl ?_;(repeat (refine zAL rfl ?_));exact zAS)|(refine zAV zEs hpf (zAX rfl zAG))|(refine zAV zCV hkid (zAX rfl (zAX rfl zAG)))|(apply aJ (hd:=rfl);(first|exact zAk rfl|exact Co_bb rfl rfl rfl|exact Co_nn rfl);exact rfl;(with_reducible exact zAW);assumption;omega;exact fun _=>rfl)|(apply zA4 (hd:=rfl) (hro:=rfl);(with_reducible exact zAp))|apply ay (hd:=rfl)|exact zAE rfl|exact zAC rfl|(apply zAf;exact rfl;(with_reducible exact zAY);exact rfl)|(apply zAl;exact rfl;(with_reducible exact zBt))|exact zBP rfl rfl|exact zAb rfl|exact zAZ rfl|(apply zAR;exact rfl;(with_reducible first|exact fy_1|exact fn_0|exact fn_1))|(apply zAU;exact rfl;(with_reducible first|exact zAn|exact zAe|exact zAv);exact rfl;exact rfl)|(refine w0' ?_)|(apply zAx;exact rfl;exact rfl;exact rfl;(with_reducible exact zAY);exact rfl;exact rfl;exact rfl;exact rfl)|exact zAQ rfl|apply zAI|apply zAP|apply eb_n
  refine zAr (α:=Nat × List Lc × TS × Bool) (fun p=>PatAt E q A ks N' S' p.1 p.2.1 p.2.2.1 ∧ (p.2.2.2 = false → p.2.1 = N ∧ pvL (ks.drop p.1) ≠ 0)) (fun p=>[(0,.ptr 0 0),(2,nmS p.2.2.2 N p.2.1),(10,.d (zFk A)),(11,.d (zAc to')),(58,.d (zBj KK)),(59,.d (i64 (ks.length : Int))),(60,.d (i64 (p.1 : Int)))]) (fun p=>anch fx 0 (tyO L E S ++ [bufN []]) (tyO L E p.2.2.1 ++ [nmO p.2.2.2 p.2.1])) (fun p=>ks.length - p.1) (0,N,S1,false) ⟨hP,fun _=>⟨rfl,by simpa using hv⟩⟩
    (zAO (zAA rfl (zAA rfl (zAA rfl (zAA rfl (zAA rfl (Le_d rfl (by rw [← hkl]) (zAA rfl zAa))))))) (zAD rfl rfl (zAD rfl rfl (zAD rfl rfl (zAu rfl rfl rfl zAN)))) rfl rfl) ?_
  rintro ⟨i,Ni,Si,f⟩ ⟨hPi,hfi⟩
  dsimp only at hPi hfi ⊢
  rcases Nat.lt_or_ge i ks.length with hlt | hge
  · have hik : ks[i]? = some ks[i]:=List.getElem?_eq_getElem hlt
    generalize ks[i] = k at hik
    obtain ⟨w1,w2,a,t,N1,S2,S3,g1,g2,g3,g4,g5,g6,g7⟩:=hPi.one hik hwk
    have hkk:=hkg i hlt
    have hks : k.sz ≤ m:=by have:=zCi (List.mem_of_getElem? hik);omega
    have hal:=(List.getElem?_eq_some_iff.1 g1).1
    have hsm:=zC6 L E S2 S3 q t a (by omega) (by have:=hpa a (List.mem_of_getElem? g1);omega) g5 g3
    cases f with
    | true =>
      have hcp:=ih.c (kidAt n ks i) k Ni N1 Si S2 t hks (hat i k hik) w1 w2 g2
      clear hP hA hPi hkg hat
      skip
      repeat' first | apply en_n|apply zAH|apply zAB|apply zAF|apply w0|(apply zA5;exact rfl;exact rfl;first|assumption|omega)|exact zCJ rfl|exact zFo rfl|exact zFn rfl|(refine zA3 [0,1,2,3] zFx (hcp) ?_ rfl rfl (by decide) rfl rfl rfl rfl rfl rfl ?_;(repeat (refine zAL rfl ?_));exact zAS)|(refine zA3 [0,1,2] zCN (hsm) ?_ rfl rfl (by decide) rfl rfl rfl rfl rfl rfl ?_;(repeat (refine zAL rfl ?_));exact zAS)|(apply aJ (hd:=rfl);(first|exact zAk rfl|exact Co_bb rfl rfl rfl|exact Co_nn rfl);exact rfl;(with_reducible first|exact zA7|exact zCP);assumption;omega;exact fun _=>rfl)|apply ay (hd:=rfl)|exact zAE rfl|exact zAC rfl|(apply zAg;exact rfl;(with_reducible first|exact zAs|exact zAn))|exact zBC rfl rfl|exact zAb rfl|exact zAw rfl|exact zAm rfl|exact zAZ rfl|exact zAK rfl|apply zAI|apply zAP|apply eb_n
      all_goals first | omega | skip
      exact ⟨(i + 1,N1,S3,true),⟨g4,fun h=>by cases h⟩,by show ks.length - (i + 1) < _;omega,zAO (zAA rfl (zAA rfl (zAA rfl (zAA rfl (zAA rfl (zAA rfl (zAA rfl zAa))))))) (zAD rfl rfl (zAD rfl rfl (zAD rfl rfl (zAu rfl rfl rfl zAN)))) rfl rfl⟩
    | false =>
      obtain ⟨rfl,hvi⟩:=hfi rfl
      by_cases hkv : k.pv = 0
      · have hN1:=g7 hkv
        subst hN1
        have hvn : pvL (ks.drop (i + 1)) ≠ 0:=by rw [zJf hik] at hvi;omega
        have hcp:=ih.a (kidAt n ks i) k N1 N1 Si S2 t hks (hat i k hik) w1 w2 g2 hkv
        clear hP hA hPi hkg hat
        skip
        repeat' first | apply en_n|apply zAH|apply zAB|apply zAF|apply w0|(apply zA5;exact rfl;exact rfl;first|assumption|omega)|exact zCJ rfl|exact zFo rfl|exact zFn rfl|(refine zA3 [0,1,2] zFx (hcp) ?_ rfl rfl (by decide) rfl rfl rfl rfl rfl rfl ?_;(repeat (refine zAL rfl ?_));exact zAS)|(refine zA3 [0,1,2] zCN (hsm) ?_ rfl rfl (by decide) rfl rfl rfl rfl rfl rfl ?_;(repeat (refine zAL rfl ?_));exact zAS)|(apply aJ (hd:=rfl);(first|exact zAk rfl|exact Co_bb rfl rfl rfl|exact Co_nn rfl);exact rfl;(with_reducible first|exact zA7|exact zCP);assumption;omega;exact fun _=>rfl)|apply ay (hd:=rfl)|exact zAE rfl|exact zAC rfl|(apply zAg;exact rfl;(with_reducible first|exact zAs|exact zAn))|exact zBC rfl rfl|exact zAb rfl|exact zAZ rfl|exact zAK rfl|apply zAI|apply zAP|apply eb_n
        all_goals first | omega | skip
        exact ⟨(i + 1,N1,S3,false),⟨g4,fun _=>⟨rfl,hvn⟩⟩,by show ks.length - (i + 1) < _;omega,zAO (zAA rfl (zAA rfl (zAA rfl (zAA rfl (zAA rfl (zAA rfl (zAA rfl zAa))))))) (zAD rfl rfl (zAD rfl rfl (zAD rfl rfl (zAu rfl rfl rfl zAN)))) rfl rfl⟩
      · have hcp:=ih.b (kidAt n ks i) k Ni N1 Si S2 t hks (hat i k hik) w1 w2 g2 hkv
        clear hP hA hPi hkg hat
        skip
        repeat' first | apply en_n|apply zAH|apply zAB|apply zAF|apply w0|(apply zA5;exact rfl;exact rfl;first|assumption|omega)|exact zCJ rfl|exact zFo rfl|exact zFn rfl|(refine zA3 [0,1,2,3] zFx (hcp) ?_ rfl rfl (by decide) rfl rfl rfl rfl rfl rfl ?_;(repeat (refine zAL rfl ?_));exact zAS)|(refine zA3 [0,1,2] zCN (hsm) ?_ rfl rfl (by decide) rfl rfl rfl rfl rfl rfl ?_;(repeat (refine zAL rfl ?_));exact zAS)|(apply aJ (hd:=rfl);(first|exact zAk rfl|exact Co_bb rfl rfl rfl|exact Co_nn rfl);exact rfl;(with_reducible first|exact zA7|exact zCP);assumption;omega;exact fun _=>rfl)|apply ay (hd:=rfl)|exact zAE rfl|exact zAC rfl|(apply zAg;exact rfl;(with_reducible first|exact zAs|exact zAn))|exact zBC rfl rfl|exact zAb rfl|exact zAm rfl|exact zAZ rfl|exact zAK rfl|apply zAI|apply zAP|apply eb_n
        all_goals first | omega | skip
        exact ⟨(i + 1,N1,S3,true),⟨g4,fun h=>by cases h⟩,by show ks.length - (i + 1) < _;omega,zAO (zAA rfl (zAA rfl (zAA rfl (zAA rfl (zAA rfl (zAA rfl (zAA rfl zAa))))))) (zAD rfl rfl (zAD rfl rfl (zAD rfl rfl (zAu rfl rfl rfl zAN)))) rfl rfl⟩
  · have hrun:=hPi.run
    rw [List.drop_of_length_le hge,patL.eq_1] at hrun
    injection hrun with hrun;injection hrun with e1 e2;subst e1;subst e2
    cases f with
    | false =>
      obtain ⟨_,hvi⟩:=hfi rfl
      rw [List.drop_of_length_le hge] at hvi
      exact absurd rfl hvi
    | true =>
      skip
      repeat' first | apply en_n|apply zAH|apply zAB|apply zAF|apply w0|(apply zBn;exact rfl;exact rfl;first|assumption|omega)|apply ay (hd:=rfl)|exact zAE rfl|exact zAC rfl|exact zAw rfl|exact zAm rfl|exact zAQ rfl|apply zAM|apply zAt|apply en_e|apply eb_e
      exact zAq ⟨zAO (zAA rfl (zAA rfl zAa)) (zAD rfl rfl (zAD rfl rfl (zAD rfl rfl (zAu rfl rfl rfl zAN)))) rfl rfl,rfl⟩
theorem zRz {L : List Nd} {E : List Sg} {q : Nat} (hL : L.length ≤ 2000000) : ∀ m,PatOk L E q m
  | 0=>⟨fun n p N N' S S' r hm=>by have:=zBR p;omega,fun n p N N' S S' r hm=>by have:=zBR p;omega,fun n p N N' S S' r hm=>by have:=zBR p;omega⟩
  | m + 1=>by
    have ih:=zRz (E:=E) (q:=q) hL m
    have ask1 : ∀ {N S} {t : Tr},Ask E N S t.sz → Ask E N S 1:=fun {N S t} h=>⟨h.e,h.t,by have:=h.n;have:=zBR t;omega,h.ok,h.st,by have:=h.nx;have:=zBR t;omega⟩
    refine ⟨fun n p N N' S S' r hm h hw hA hp hv=>?_,fun n p N N' S S' r hm h hw hA hp hv=>?_,fun n p N N' S S' r hm h hw hA hp=>?_⟩ <;> (obtain ⟨x,ks⟩:=p;obtain ⟨hk1,hk2⟩:=zOv hw)
    · by_cases hk : x.kind = 24
      · exact zQz hL ih n x ks N N' S S' r hk hm h hw hA hp hv
      · refine (zJh hL n x ks N N' S S' r h.here (ask1 hA) hk hk1 hp).1 fun h22=>?_
        rw [Tr.pv,if_pos h22] at hv;cases hv
    · by_cases hk : x.kind = 24
      · exact zQy hL ih n x ks N N' S S' r hk hm h hw hA hp hv
      · refine (zJh hL n x ks N N' S S' r h.here (ask1 hA) hk hk1 hp).2.1 ?_
        by_cases h22 : x.kind = 22
        · exact h22
        · rw [Tr.pv,if_neg h22,if_neg hk] at hv;exact absurd rfl hv
    · by_cases hk : x.kind = 24
      · exact zQx hL ih n x ks N N' S S' r hk hm h hw hA hp
      · exact (zJh hL n x ks N N' S S' r h.here (ask1 hA) hk hk1 hp).2.2
end Go.Proofs.YtblomnkamngnbaaGreatDoor
namespace Go.Proofs.YtblomnkamngnbaaGreatDoor
open Go.Sx
theorem zE3 {P : Program} {η : List Ob} {σ : Sl} {dst : Option Nat} {ty : TypeId} {pos : String} {after : Array Edge} {gd : Option (Nat × Bool)} {t : TypeId} {p q : Operand} {a : List Nd} {i : Nat} {x : Nd} (hx : a[i]? = some x) (hp : oval σ p = .d (zAc a)) (hq : oval σ q = .d (i64 (i : Int))) (hs : zBG P t = some 4) :
    Ylds P η σ ⟨dst,.indexAddr t p q,ty,pos,after,gd⟩ (.rptr x.av.flat) :=
  zGh (xs:=a.map Nd.av) (zAk hp) hq hs (by omega) (by show (a.map Nd.av)[((i : Int)).toNat]? = _;rw [Int.toNat_natCast,List.getElem?_map,hx];rfl) (fun d hd=>by obtain ⟨v,_,rfl⟩:=List.mem_map.1 hd;rfl)
abbrev ndB (x : Nd) : Ob:=.bx none none ((Nd.cells x).map .d)
def zGl (L : List Nd) (E : List Sg) (q m : Nat) : Prop:=∀ (n : Nat) (t : Tr) (N : List Lc) (S S' : TS) (r : List Nd),t.sz ≤ m → At L n t → t.werr false = 0 → t.sz ≤ 4500 → Ask E N S t.sz → t.expS q E N S = some (r,S') →
  zA2 Tryz.prog 39 [.ptr 0 0,.d (i64 (n : Int)),.d (locs N)] (tyO L E S) (.d (zAc r)) (tyO L E S')
theorem Ask.go {E : List Sg} {N N1 : List Lc} {S S1 : TS} {k k1 a : Nat} (h : Ask E N S k) (u : Up S S1 a) (hok : LcsOk N1) (hn : N1.length + k1 ≤ N.length + k) (hk : a + 5000 * k1 ≤ 5000 * k) : Ask E N1 S1 k1 :=
  ⟨h.e,h.t,by have:=h.n;omega,hok,u.st h.st,by have:=h.nx;have:=u.lo;have:=u.hi;omega⟩
attribute [local irreducible] zAT Program.underlying Ylds zBA alex zBc zBO awp zAj zBX RCall zA2 zBH zBQ zA8 zBT zBZ zBd zBr zBN zEE VCall segC
set_option maxHeartbeats 1000000 in
theorem zTz {L : List Nd} {E : List Sg} {q : Nat} (n : Nat) (t : Tr) (N : List Lc) (S S' : TS) (r : List Nd) (h0 : S.er ≠ 0) (hp : t.expS q E N S = some (r,S')) :
    zA2 Tryz.prog 39 [.ptr 0 0,.d (i64 (n : Int)),.d (locs N)] (tyO L E S) (.d (zAc r)) (tyO L E S'):=by
  rw [zPi _ h0] at hp
  injection hp with hp;injection hp with e1 e2;subst e1;subst e2
  have hpl:=zED intT
  refine zA1 Tryz.func39 rfl Tryz.ntmps39 Tryz.results39 rfl rfl rfl ?_
  intro wb St0 X fx
  repeat' first | apply en_n|apply zAH|apply zAB|apply zAF|apply w0|(apply zB4;exact rfl;exact rfl;first|assumption|omega)|exact zAo rfl|(refine zAV zDn hpl (zAX rfl zAG))|apply ay (hd:=rfl)|exact zAC rfl|exact zAb rfl|exact zAZ rfl|(apply zAR;exact rfl;(with_reducible exact fy_3))|(apply zAU;exact rfl;(with_reducible exact zCf);exact rfl;exact rfl)|exact zAK rfl|apply zAM|apply en_r
  exact zAq (zAO (zAA rfl zAa) (zAD rfl rfl (zAD rfl rfl (zAD rfl rfl zAN))) rfl rfl)
set_option maxHeartbeats 4000000 in
theorem zSz {L : List Nd} {E : List Sg} {q m : Nat} (hL : L.length ≤ 2000000) (ih : zGl L E q m) (n : Nat) (x : Nd) (ks : List Tr) (N : List Lc) (S S' : TS) (r : List Nd) (hk : x.kind = 1) (hm : (Tr.mk x ks).sz ≤ m + 1) (h : At L n (.mk x ks)) (hw : (Tr.mk x ks).werr false = 0) (hz : (Tr.mk x ks).sz ≤ 4500) (hA : Ask E N S (Tr.mk x ks).sz) (h0 : S.er = 0) (hp : (Tr.mk x ks).expS q E N S = some (r,S')) :
    zA2 Tryz.prog 39 [.ptr 0 0,.d (i64 (n : Int)),.d (locs N)] (tyO L E S) (.d (zAc r)) (tyO L E S'):=by
  have hx:=h.here
  have hlen : n < L.length:=(List.getElem?_eq_some_iff.1 hx).1
  have hkid:=zCa L (n : Int) hL
  obtain ⟨rfl,rfl⟩:=zT7 h0 hk hp
  have hpl:=zED intT
  generalize zBV L (n : Int) = KK at *
  refine zA1 Tryz.func39 rfl Tryz.ntmps39 Tryz.results39 rfl rfl rfl ?_
  intro wb St0 X fx
  repeat' first | (refine zB0 (id:=4) [.y (.ptr 0 0),.y (.ptr 0 0),.y (.ptr 0 1),.y (.d (zAc L)),.y (.d (i64 (n : Int))),.y (.rptr x.av.flat),.y (.d (.agg (x.av.flat.take 4))),.y (.ptr 0 0),.y (.ptr 0 0),.y (.ptr 0 1),.y (.d (zAc L)),.y (.d (i64 (n : Int))),.y (.d (zBj KK)),.mk ⟨7,zsN,40,zsN.map cst⟩ none] (by kernel_rfl) (by kernel_rfl) (.inr (by kernel_rfl)) ⟨⟨rfl,zAZ rfl⟩,rfl,⟨rfl,zAo rfl⟩,rfl,⟨rfl,zAR rfl fy_1⟩,rfl,⟨rfl,zAU rfl zAn rfl rfl⟩,rfl,⟨rfl,zAE rfl⟩,rfl,⟨rfl,zE3 hx rfl rfl zAW⟩,rfl,⟨rfl,zAf rfl zAY rfl⟩,rfl,⟨rfl,zAZ rfl⟩,rfl,⟨rfl,zAo rfl⟩,rfl,⟨rfl,zAR rfl fy_1⟩,rfl,⟨rfl,zAU rfl zAn rfl rfl⟩,rfl,⟨rfl,zAE rfl⟩,rfl,⟨rfl,zAV zCV hkid (zAX rfl (zAX rfl zAG))⟩,rfl,⟨rfl,rfl,rfl,zAp,by kernel_rfl,rfl⟩,rfl,trivial⟩ ?_)|apply en_n|apply zAH|apply zAB|apply zAF|apply w0|(apply zHR;exact zAk rfl;(with_reducible exact zBw);exact rfl;exact rfl;exact (by simp);exact zDH N)|(refine zC5 (by kernel_rfl) ?_;apply zAx;exact rfl;exact rfl;exact rfl;(with_reducible exact zAY);exact rfl;exact rfl;exact rfl;exact rfl)|(apply zBD;exact rfl;exact rfl;first|assumption|omega)|(apply zBS;exact rfl;exact rfl;first|assumption|omega)|exact zAo rfl|(refine zAV zDn hpl (zAX rfl zAG))|apply ay (hd:=rfl)|exact zAE rfl|exact zAC rfl|(apply zAl;exact rfl;(with_reducible exact zDK))|exact zAb rfl|exact zAZ rfl|(apply zAR;exact rfl;(with_reducible first|exact fy_3|exact fn_0))|(apply zAU;exact rfl;(with_reducible first|exact zAe|exact zCf);exact rfl;exact rfl)|(refine w0' ?_)|exact zAK rfl|exact zAQ rfl|apply zAI|apply zAP|apply zAM|apply en_r|apply eb_r
  exact zAq (zAO (zAA rfl zAa) (zAD rfl rfl (zAD rfl rfl (zAD rfl rfl zAN))) rfl rfl)
set_option maxHeartbeats 4000000 in
theorem zSv {L : List Nd} {E : List Sg} {q m : Nat} (hL : L.length ≤ 2000000) (ih : zGl L E q m) (n : Nat) (x : Nd) (ks : List Tr) (N : List Lc) (S S' : TS) (r : List Nd) (hk : x.kind = 2) (hm : (Tr.mk x ks).sz ≤ m + 1) (h : At L n (.mk x ks)) (hw : (Tr.mk x ks).werr false = 0) (hz : (Tr.mk x ks).sz ≤ 4500) (hA : Ask E N S (Tr.mk x ks).sz) (h0 : S.er = 0) (hp : (Tr.mk x ks).expS q E N S = some (r,S')) :
    zA2 Tryz.prog 39 [.ptr 0 0,.d (i64 (n : Int)),.d (locs N)] (tyO L E S) (.d (zAc r)) (tyO L E S'):=by
  have hx:=h.here
  have hlen : n < L.length:=(List.getElem?_eq_some_iff.1 hx).1
  have hkid:=zCa L (n : Int) hL
  obtain ⟨rfl,rfl⟩:=zT6 h0 hk hp
  have hpl:=zED texT
  generalize zBV L (n : Int) = KK at *
  refine zA1 Tryz.func39 rfl Tryz.ntmps39 Tryz.results39 rfl rfl rfl ?_
  intro wb St0 X fx
  repeat' first | (refine zB0 (id:=4) [.y (.ptr 0 0),.y (.ptr 0 0),.y (.ptr 0 1),.y (.d (zAc L)),.y (.d (i64 (n : Int))),.y (.rptr x.av.flat),.y (.d (.agg (x.av.flat.take 4))),.y (.ptr 0 0),.y (.ptr 0 0),.y (.ptr 0 1),.y (.d (zAc L)),.y (.d (i64 (n : Int))),.y (.d (zBj KK)),.mk ⟨7,zsN,40,zsN.map cst⟩ none] (by kernel_rfl) (by kernel_rfl) (.inr (by kernel_rfl)) ⟨⟨rfl,zAZ rfl⟩,rfl,⟨rfl,zAo rfl⟩,rfl,⟨rfl,zAR rfl fy_1⟩,rfl,⟨rfl,zAU rfl zAn rfl rfl⟩,rfl,⟨rfl,zAE rfl⟩,rfl,⟨rfl,zE3 hx rfl rfl zAW⟩,rfl,⟨rfl,zAf rfl zAY rfl⟩,rfl,⟨rfl,zAZ rfl⟩,rfl,⟨rfl,zAo rfl⟩,rfl,⟨rfl,zAR rfl fy_1⟩,rfl,⟨rfl,zAU rfl zAn rfl rfl⟩,rfl,⟨rfl,zAE rfl⟩,rfl,⟨rfl,zAV zCV hkid (zAX rfl (zAX rfl zAG))⟩,rfl,⟨rfl,rfl,rfl,zAp,by kernel_rfl,rfl⟩,rfl,trivial⟩ ?_)|apply en_n|apply zAH|apply zAB|apply zAF|apply w0|(apply zHR;exact zAk rfl;(with_reducible exact zBw);exact rfl;exact rfl;exact (by simp);exact zDH N)|(refine zC5 (by kernel_rfl) ?_;apply zAx;exact rfl;exact rfl;exact rfl;(with_reducible exact zAY);exact rfl;exact rfl;exact rfl;exact rfl)|(apply zBD;exact rfl;exact rfl;first|assumption|omega)|(apply zA9;exact rfl;exact rfl;first|assumption|omega)|(apply zBS;exact rfl;exact rfl;first|assumption|omega)|exact zAo rfl|(refine zAV zDn hpl (zAX rfl zAG))|apply ay (hd:=rfl)|exact zAE rfl|exact zAC rfl|(apply zAl;exact rfl;(with_reducible exact zDK))|exact zAb rfl|exact zAZ rfl|(apply zAR;exact rfl;(with_reducible first|exact fy_3|exact fn_0))|(apply zAU;exact rfl;(with_reducible first|exact zAe|exact zCf);exact rfl;exact rfl)|(refine w0' ?_)|exact zAK rfl|exact zAQ rfl|apply zAI|apply zAP|apply zAM|apply en_r|apply eb_r
  exact zAq (zAO (zAA rfl zAa) (zAD rfl rfl (zAD rfl rfl (zAD rfl rfl zAN))) rfl rfl)
set_option maxHeartbeats 4000000 in
theorem zSu {L : List Nd} {E : List Sg} {q m : Nat} (hL : L.length ≤ 2000000) (ih : zGl L E q m) (n : Nat) (x : Nd) (ks : List Tr) (N : List Lc) (S S' : TS) (r : List Nd) (hk : x.kind = 3 ∨ x.kind = 4) (hm : (Tr.mk x ks).sz ≤ m + 1) (h : At L n (.mk x ks)) (hw : (Tr.mk x ks).werr false = 0) (hz : (Tr.mk x ks).sz ≤ 4500) (hA : Ask E N S (Tr.mk x ks).sz) (h0 : S.er = 0) (hp : (Tr.mk x ks).expS q E N S = some (r,S')) :
    zA2 Tryz.prog 39 [.ptr 0 0,.d (i64 (n : Int)),.d (locs N)] (tyO L E S) (.d (zAc r)) (tyO L E S'):=by
  have hx:=h.here
  have hlen : n < L.length:=(List.getElem?_eq_some_iff.1 hx).1
  have hkid:=zCa L (n : Int) hL
  obtain ⟨u,S1,h1,h2,rfl⟩:=zT5 h0 hk hp
  have hsp:=zBR (Tr.mk x ks)
  have hA1:=hA.go (zCM S) hA.ok (k1:=(Tr.mk x ks).sz - 1) (by omega) (by omega)
  obtain ⟨b1,b2⟩:=zKi hA.t hA.ok h1
  have hnx:=zFA L E S (by have:=hA.nx;omega)
  have hnm:=zQ3 L E (zCk S) S1 N x.text u hA.e hA.t (by have:=hA.n;omega) (fun l hl=>⟨(hA.ok l hl).1,by have:=(hA.ok l hl).2;omega⟩) (by have:=hA1.nx;omega) h1
  have hsm:=zC6 L E S1 S' q (varN S.nx) u (by simp [varN]) (by omega) (b1.st hA1.st) h2
  clear hp h1 h2
  generalize zBV L (n : Int) = KK at *
  rcases hk with hk | hk
  all_goals
    refine zA1 Tryz.func39 rfl Tryz.ntmps39 Tryz.results39 rfl rfl rfl ?_
    intro wb St0 X fx
  all_goals skip
  repeat' first | exact zCd rfl|(refine zBs (id:=5) (s:=[(0,.ptr 0 0),(2,.d (tslN N)),(7,.ptr 3 0),(8,.d (zBj KK))]) (h:=anch fx 0 (tyO L E S) (tyO L E S) ++ [ndB x]) (zAO (zAA rfl (zAA rfl (zAA rfl (zAA rfl zAa)))) (zAD rfl rfl (zAD rfl rfl (zAD rfl rfl (zGk rfl zEK zAN)))) rfl rfl) ?_)|(refine zB0 (id:=4) [.y (.ptr 0 0),.y (.ptr 0 0),.y (.ptr 0 1),.y (.d (zAc L)),.y (.d (i64 (n : Int))),.y (.rptr x.av.flat),.y (.d (.agg (x.av.flat.take 4))),.y (.ptr 0 0),.y (.ptr 0 0),.y (.ptr 0 1),.y (.d (zAc L)),.y (.d (i64 (n : Int))),.y (.d (zBj KK)),.mk ⟨7,zsN,40,zsN.map cst⟩ none] (by kernel_rfl) (by kernel_rfl) (.inr (by kernel_rfl)) ⟨⟨rfl,zAZ rfl⟩,rfl,⟨rfl,zAo rfl⟩,rfl,⟨rfl,zAR rfl fy_1⟩,rfl,⟨rfl,zAU rfl zAn rfl rfl⟩,rfl,⟨rfl,zAE rfl⟩,rfl,⟨rfl,zE3 hx rfl rfl zAW⟩,rfl,⟨rfl,zAf rfl zAY rfl⟩,rfl,⟨rfl,zAZ rfl⟩,rfl,⟨rfl,zAo rfl⟩,rfl,⟨rfl,zAR rfl fy_1⟩,rfl,⟨rfl,zAU rfl zAn rfl rfl⟩,rfl,⟨rfl,zAE rfl⟩,rfl,⟨rfl,zAV zCV hkid (zAX rfl (zAX rfl zAG))⟩,rfl,⟨rfl,rfl,rfl,zAp,by kernel_rfl,rfl⟩,rfl,trivial⟩ ?_)|apply en_n|apply zAH|apply zAB|apply zAF|apply w0|(apply zHR;exact zAk rfl;(with_reducible exact zBw);exact rfl;exact rfl;exact (by simp);exact zDH N)|(refine zC5 (by kernel_rfl) ?_;apply zAx;exact rfl;exact rfl;exact rfl;(with_reducible exact zAY);exact rfl;exact rfl;exact rfl;exact rfl)|(apply zBD;exact rfl;exact rfl;first|assumption|omega)|(apply zA9;exact rfl;exact rfl;first|assumption|omega)|(apply zBS;exact rfl;exact rfl;first|assumption|omega)|exact zAo rfl|(refine zA3 [0,1,2] zD2 (hnx) ?_ rfl rfl (by decide) rfl rfl rfl rfl rfl rfl ?_;(repeat (refine zAL rfl ?_));exact zAS)|(refine zA3 [0,1,2] zPH (hnm) ?_ rfl rfl (by decide) rfl rfl rfl rfl rfl rfl ?_;(repeat (refine zAL rfl ?_));exact zAS)|(refine zA3 [0,1,2] zCN (hsm) ?_ rfl rfl (by decide) rfl rfl rfl rfl rfl rfl ?_;(repeat (refine zAL rfl ?_));exact zAS)|apply ay (hd:=rfl)|exact zAE rfl|exact zAC rfl|(apply zAl;exact rfl;(with_reducible exact zDK))|exact zAb rfl|exact zAZ rfl|(apply zAR;exact rfl;(with_reducible first|exact fy_3|exact fn_0|exact fn_1))|(apply zAU;exact rfl;(with_reducible first|exact zAe|exact zAv|exact zCf);exact rfl;exact rfl)|(refine w0' ?_)|exact zAK rfl|exact zAQ rfl|apply zAI|apply zAP|apply zAM|apply en_r|apply eb_r
  all_goals exact zAq (zAO (zAA rfl zAa) (zAD rfl rfl (zAD rfl rfl (zAD rfl rfl zAN))) rfl rfl)
end Go.Proofs.YtblomnkamngnbaaGreatDoor
namespace Go.Proofs.YtblomnkamngnbaaGreatDoor
open Go.Sx
attribute [local irreducible] zAT Program.underlying Ylds zBA alex zBc zBO awp zAj zBX RCall zA2 zBH zBQ zA8 zBT zBZ zBd zBr zBN zEE VCall segC
set_option maxHeartbeats 4000000 in
theorem zTy {L : List Nd} {E : List Sg} {q m : Nat} (hL : L.length ≤ 2000000) (ih : zGl L E q m) (n : Nat) (x : Nd) (ks : List Tr) (N : List Lc) (S S' : TS) (r : List Nd) (hk : x.kind = 5) (hm : (Tr.mk x ks).sz ≤ m + 1) (h : At L n (.mk x ks)) (hw : (Tr.mk x ks).werr false = 0) (hz : (Tr.mk x ks).sz ≤ 4500) (hA : Ask E N S (Tr.mk x ks).sz) (h0 : S.er = 0) (hp : (Tr.mk x ks).expS q E N S = some (r,S')) :
    zA2 Tryz.prog 39 [.ptr 0 0,.d (i64 (n : Int)),.d (locs N)] (tyO L E S) (.d (zAc r)) (tyO L E S'):=by
  have hx:=h.here
  have hlen : n < L.length:=(List.getElem?_eq_some_iff.1 hx).1
  have hkid:=zCa L (n : Int) hL
  obtain ⟨k,rfl⟩:=zMw h.wf (by have:=(zC3 hw).2;rw [hk] at this;simpa [cntK] using this)
  have hwk:=(zC0 hw).2
  have hwf:=h.wf
  rw [Tr.wf] at hwf
  have hwf2:=zCT.1 hwf.2
  have hsz : (Tr.mk x [k]).sz = k.sz + 1:=by simp only [Tr.sz,szL,Nat.add_zero] <;> omega
  have hk0:=h.kids_get (i:=0) (by simp)
  have hat0:=h.kid (i:=0) (k:=k) rfl
  have hw0 : k.werr false = 0:=by simpa [hk] using zBY (j:=0) hwk (k:=k) rfl
  have hf0:=hwf2 k (by simp)
  generalize kidAt n [k] 0 = p0 at *
  obtain ⟨b,h1,rfl⟩:=zT4 h0 hk hp
  have hlk : LcOk ⟨x.text,varN S.nx,[]⟩:=⟨by simp [varN],by simp⟩
  have hA1:=hA.go (zCM S) (hA.ok.app hlk) (k1:=k.sz) (by simp;omega) (by omega)
  obtain ⟨b1,b2⟩:=zBk hA.t k.sz k (Nat.le_refl _) hf0 hw0 (by omega) (hA.ok.app hlk) h1
  have hnx:=zFA L E S (by have:=hA.nx;omega)
  have hce:=ih p0 k (N ++ [⟨x.text,varN S.nx,[]⟩]) (zCk S) S' b (by omega) hat0 hw0 (by omega) hA1 h1
  have har:=zNN (varN S.nx) b (by simp [varN]) (by omega)
  rw [show locs (N ++ [⟨x.text,varN S.nx,[]⟩]) = .slice (N.map Lc.av ++ [Lc.av ⟨x.text,varN S.nx,[]⟩]) by simp [locs]] at hce
  have hcap : ((N.map Lc.av).length + 1) * 64 ≤ 140737488355328 ∧ (N.map Lc.av).length + 1 ≤ 140737488355328:=by have:=hA.n;rw [List.length_map];omega
  clear hp h1 hwk hwf2 hwf
  generalize zBV L (n : Int) = KK at *
  refine zA1 Tryz.func39 rfl Tryz.ntmps39 Tryz.results39 rfl rfl rfl ?_
  intro wb St0 X fx
  repeat' first | (refine zBs (id:=5) (s:=[(0,.ptr 0 0),(2,.d (tslN N)),(7,.ptr 3 0),(8,.d (zBj KK))]) (h:=anch fx 0 (tyO L E S) (tyO L E S) ++ [ndB x]) (zAO (zAA rfl (zAA rfl (zAA rfl (zAA rfl zAa)))) (zAD rfl rfl (zAD rfl rfl (zAD rfl rfl (zGk rfl zEK zAN)))) rfl rfl) ?_)|(refine zB0 (id:=4) [.y (.ptr 0 0),.y (.ptr 0 0),.y (.ptr 0 1),.y (.d (zAc L)),.y (.d (i64 (n : Int))),.y (.rptr x.av.flat),.y (.d (.agg (x.av.flat.take 4))),.y (.ptr 0 0),.y (.ptr 0 0),.y (.ptr 0 1),.y (.d (zAc L)),.y (.d (i64 (n : Int))),.y (.d (zBj KK)),.mk ⟨7,zsN,40,zsN.map cst⟩ none] (by kernel_rfl) (by kernel_rfl) (.inr (by kernel_rfl)) ⟨⟨rfl,zAZ rfl⟩,rfl,⟨rfl,zAo rfl⟩,rfl,⟨rfl,zAR rfl fy_1⟩,rfl,⟨rfl,zAU rfl zAn rfl rfl⟩,rfl,⟨rfl,zAE rfl⟩,rfl,⟨rfl,zE3 hx rfl rfl zAW⟩,rfl,⟨rfl,zAf rfl zAY rfl⟩,rfl,⟨rfl,zAZ rfl⟩,rfl,⟨rfl,zAo rfl⟩,rfl,⟨rfl,zAR rfl fy_1⟩,rfl,⟨rfl,zAU rfl zAn rfl rfl⟩,rfl,⟨rfl,zAE rfl⟩,rfl,⟨rfl,zAV zCV hkid (zAX rfl (zAX rfl zAG))⟩,rfl,⟨rfl,rfl,rfl,zAp,by kernel_rfl,rfl⟩,rfl,trivial⟩ ?_)|(apply zG6 (id:=17) (ids:=[0,1,2]) (ss:=[.d (zAc (varN S.nx)),.ptr 0 0,.d (zBj KK),.rptr (ival (p0 : Int)).flat,.d (ival (p0 : Int)),.d (tslN N),.ptr 3 (0 + 1),.d (str x.text),.d (zAc (varN S.nx)),.d (Lc.av ⟨x.text,varN S.nx,[]⟩),.d (.slice [Lc.av ⟨x.text,varN S.nx,[]⟩]),.d (.slice (N.map Lc.av ++ [Lc.av ⟨x.text,varN S.nx,[]⟩])),.d (zAc b)]) (e:=12);kernel_rfl;kernel_rfl;exact rfl;exact .inr (by kernel_rfl);exact rfl)|apply en_n|apply zAH|apply zAB|apply zAF|apply w0|(apply zHR;exact zAk rfl;(with_reducible exact zBw);exact rfl;exact rfl;exact (by simp);exact zDH N)|(refine zC5 (by kernel_rfl) ?_;apply zAx;exact rfl;exact rfl;exact rfl;(with_reducible exact zAY);exact rfl;exact rfl;exact rfl;exact rfl)|(apply zBD;exact rfl;exact rfl;first|assumption|omega)|(apply zA9;exact rfl;exact rfl;first|assumption|omega)|(apply zBS;exact rfl;exact rfl;first|assumption|omega)|exact zAo rfl|(refine zA3 [0,1,2] zD2 (hnx) ?_ rfl rfl (by decide) rfl rfl rfl rfl rfl rfl ?_;(repeat (refine zAL rfl ?_));exact zAS)|exact zGE|(apply zGp (hb:=zDE) (hc:=hce);exact rfl;((repeat (refine zAL rfl ?_));exact zAS);exact rfl;exact rfl;exact (by decide);exact rfl;exact rfl;exact rfl;exact rfl;exact rfl;exact rfl;exact rfl;exact rfl;exact rfl;exact rfl)|(refine zKT rfl rfl rfl rfl ?_ ?_)|apply zFP|exact zGj|(apply zHA;exact hk0;exact rfl;exact rfl;exact zA7)|(apply zJP (ys:=[Lc.av ⟨x.text,varN S.nx,[]⟩]);exact rfl;exact zAk rfl;exact rfl;(with_reducible exact zCY);(with_reducible exact zBw);(with_reducible exact zHB);(with_reducible exact zFK);exact zDH N;exact zCA rfl;exact hcap)|(apply zBE (cs:=Lc.cells ⟨x.text,varN S.nx,[]⟩);exact zHE;exact zEz;exact PD_d rfl rfl (PD_d rfl rfl (PD_n rfl zBy));exact rfl)|(refine zAV zM9 har (zAX rfl (zAX rfl zAG)))|apply ay (hd:=rfl)|exact zAE rfl|exact zAC rfl|(apply zAg;exact rfl;(with_reducible exact zAs))|(apply zAl;exact rfl;(with_reducible exact zDK))|exact zAb rfl|exact zAZ rfl|(apply zAR;exact rfl;(with_reducible first|exact fy_3|exact fn_0|exact fn_1))|(apply zAU;exact rfl;(with_reducible first|exact zAe|exact zAv|exact zCf);exact rfl;exact rfl)|(apply zB8;(with_reducible exact zCY);(with_reducible exact zBw);(with_reducible exact zHl);exact rfl;exact rfl;(first|exact zAX rfl zAG|exact zCx rfl rfl rfl zAG|exact zDB rfl zAG);exact rfl)|(refine w0' ?_)|exact zAK rfl|exact zAQ rfl|apply zAI|apply zAP|apply zAM|apply en_r|apply eb_r
  exact zAq (zAO (zAA rfl zAa) (zAD rfl rfl (zAD rfl rfl (zAD rfl rfl zAN))) rfl rfl)
end Go.Proofs.YtblomnkamngnbaaGreatDoor
namespace Go.Proofs.YtblomnkamngnbaaGreatDoor
open Go.Sx
attribute [local irreducible] zAT Program.underlying Ylds zBA alex zBc zBO awp zAj zBX RCall zA2 zBH zBQ zA8 zBT zBZ zBd zBr zBN zEE VCall segC
set_option maxHeartbeats 4000000 in
theorem zS0 {L : List Nd} {E : List Sg} {q m : Nat} (hL : L.length ≤ 2000000) (ih : zGl L E q m) (n : Nat) (x : Nd) (ks : List Tr) (N : List Lc) (S S' : TS) (r : List Nd) (hk : x.kind = 6) (hm : (Tr.mk x ks).sz ≤ m + 1) (h : At L n (.mk x ks)) (hw : (Tr.mk x ks).werr false = 0) (hz : (Tr.mk x ks).sz ≤ 4500) (hA : Ask E N S (Tr.mk x ks).sz) (h0 : S.er = 0) (hp : (Tr.mk x ks).expS q E N S = some (r,S')) :
    zA2 Tryz.prog 39 [.ptr 0 0,.d (i64 (n : Int)),.d (locs N)] (tyO L E S) (.d (zAc r)) (tyO L E S'):=by
  have hx:=h.here
  have hlen : n < L.length:=(List.getElem?_eq_some_iff.1 hx).1
  have hkid:=zCa L (n : Int) hL
  obtain ⟨a,b,rfl⟩:=zHF h.wf (by have:=(zC3 hw).2;rw [hk] at this;simpa [cntK] using this)
  have hwk:=(zC0 hw).2
  have hwf:=h.wf
  rw [Tr.wf] at hwf
  have hwf2:=zCT.1 hwf.2
  have hsz : (Tr.mk x [a,b]).sz = a.sz + b.sz + 1:=by simp only [Tr.sz,szL,Nat.add_zero] <;> omega
  have hk0:=h.kids_get (i:=0) (by simp)
  have hat0:=h.kid (i:=0) (k:=a) rfl
  have hw0 : a.werr false = 0:=by simpa [hk] using zBY (j:=0) hwk (k:=a) rfl
  have hf0:=hwf2 a (by simp)
  have hk1:=h.kids_get (i:=1) (by simp)
  have hat1:=h.kid (i:=1) (k:=b) rfl
  have hw1 : b.werr false = 0:=by simpa [hk] using zBY (j:=1) hwk (k:=b) rfl
  have hf1:=hwf2 b (by simp)
  generalize kidAt n [a,b] 0 = p0 at *
  generalize kidAt n [a,b] 1 = p1 at *
  obtain ⟨t,S1,u,S2,h1,h2,h3,rfl⟩:=zT3 h0 hk hp
  have hpa:=zBR a
  have hpb:=zBR b
  obtain ⟨b01,b02⟩:=zBk hA.t a.sz a (Nat.le_refl _) hf0 hw0 (by omega) hA.ok h1
  obtain ⟨b11,b12⟩:=zBk hA.t b.sz b (Nat.le_refl _) hf1 hw1 (by omega) hA.ok h2
  have hA0:=hA.go (Up.refl S) hA.ok (k1:=a.sz) (by omega) (by omega)
  have hA1:=hA.go b01 hA.ok (k1:=b.sz) (by omega) (by omega)
  have hA2:=hA.go (b01.trans b11) hA.ok (k1:=1) (by omega) (by omega)
  have hce0:=ih p0 a N S S1 t (by omega) hat0 hw0 (by omega) hA0 h1
  have hce1:=ih p1 b N S1 S2 u (by omega) hat1 hw1 (by omega) hA1 h2
  have hnx:=zFA L E S2 (by have:=hA2.nx;omega)
  have har:=zNN u (varN S2.nx) (by omega) (by simp [varN])
  have hsm:=zC6 L E (zCk S2) S' q t (zGb u (varN S2.nx)) (by omega) (by rw [zJN];simp [varN];omega) ((zCM S2).st hA2.st) h3
  clear hp h1 h2 h3 hwk hwf2 hwf
  generalize zBV L (n : Int) = KK at *
  refine zA1 Tryz.func39 rfl Tryz.ntmps39 Tryz.results39 rfl rfl rfl ?_
  intro wb St0 X fx
  repeat' first | (refine zBs (id:=20) (s:=[(0,.ptr 0 0),(2,.d (tslN N)),(7,.ptr 3 0),(8,.d (zBj KK)),(11,.d (zAc t))]) (h:=anch fx 0 (tyO L E S) (tyO L E S1) ++ [ndB x]) (zAO (zAA rfl (zAA rfl (zAA rfl (zAA rfl (zAA rfl zAa))))) (zAD rfl rfl (zAD rfl rfl (zAD rfl rfl (zAD rfl rfl zAN)))) rfl rfl) ?_)|(refine zBs (id:=21) (s:=[(0,.ptr 0 0),(11,.d (zAc t)),(12,.d (zAc u))]) (h:=anch fx 0 (tyO L E S) (tyO L E S2) ++ [ndB x]) (zAO (zAA rfl (zAA rfl (zAA rfl zAa))) (zAD rfl rfl (zAD rfl rfl (zAD rfl rfl (zAD rfl rfl zAN)))) rfl rfl) ?_)|exact zCd rfl|(refine zBs (id:=5) (s:=[(0,.ptr 0 0),(2,.d (tslN N)),(7,.ptr 3 0),(8,.d (zBj KK))]) (h:=anch fx 0 (tyO L E S) (tyO L E S) ++ [ndB x]) (zAO (zAA rfl (zAA rfl (zAA rfl (zAA rfl zAa)))) (zAD rfl rfl (zAD rfl rfl (zAD rfl rfl (zGk rfl zEK zAN)))) rfl rfl) ?_)|(refine zB0 (id:=4) [.y (.ptr 0 0),.y (.ptr 0 0),.y (.ptr 0 1),.y (.d (zAc L)),.y (.d (i64 (n : Int))),.y (.rptr x.av.flat),.y (.d (.agg (x.av.flat.take 4))),.y (.ptr 0 0),.y (.ptr 0 0),.y (.ptr 0 1),.y (.d (zAc L)),.y (.d (i64 (n : Int))),.y (.d (zBj KK)),.mk ⟨7,zsN,40,zsN.map cst⟩ none] (by kernel_rfl) (by kernel_rfl) (.inr (by kernel_rfl)) ⟨⟨rfl,zAZ rfl⟩,rfl,⟨rfl,zAo rfl⟩,rfl,⟨rfl,zAR rfl fy_1⟩,rfl,⟨rfl,zAU rfl zAn rfl rfl⟩,rfl,⟨rfl,zAE rfl⟩,rfl,⟨rfl,zE3 hx rfl rfl zAW⟩,rfl,⟨rfl,zAf rfl zAY rfl⟩,rfl,⟨rfl,zAZ rfl⟩,rfl,⟨rfl,zAo rfl⟩,rfl,⟨rfl,zAR rfl fy_1⟩,rfl,⟨rfl,zAU rfl zAn rfl rfl⟩,rfl,⟨rfl,zAE rfl⟩,rfl,⟨rfl,zAV zCV hkid (zAX rfl (zAX rfl zAG))⟩,rfl,⟨rfl,rfl,rfl,zAp,by kernel_rfl,rfl⟩,rfl,trivial⟩ ?_)|apply en_n|apply zAH|apply zAB|apply zAF|apply w0|(apply zHR;exact zAk rfl;(with_reducible exact zBw);exact rfl;exact rfl;exact (by simp);exact zDH N)|(refine zC5 (by kernel_rfl) ?_;apply zAx;exact rfl;exact rfl;exact rfl;(with_reducible exact zAY);exact rfl;exact rfl;exact rfl;exact rfl)|(apply zBD;exact rfl;exact rfl;first|assumption|omega)|(apply zA9;exact rfl;exact rfl;first|assumption|omega)|(apply zBS;exact rfl;exact rfl;first|assumption|omega)|exact zAo rfl|(refine zA3 [0,1,2] zDE (hce0) ?_ rfl rfl (by decide) rfl rfl rfl rfl rfl rfl ?_;(repeat (refine zAL rfl ?_));exact zAS)|(refine zA3 [0,1,2] zDE (hce1) ?_ rfl rfl (by decide) rfl rfl rfl rfl rfl rfl ?_;(repeat (refine zAL rfl ?_));exact zAS)|(refine zA3 [0,1,2] zD2 (hnx) ?_ rfl rfl (by decide) rfl rfl rfl rfl rfl rfl ?_;(repeat (refine zAL rfl ?_));exact zAS)|(refine zA3 [0,1,2] zCN (hsm) ?_ rfl rfl (by decide) rfl rfl rfl rfl rfl rfl ?_;(repeat (refine zAL rfl ?_));exact zAS)|(refine zAV zM9 har (zAX rfl (zAX rfl zAG)))|(apply aJ (hd:=rfl);(first|exact zAk rfl|exact Co_bb rfl rfl rfl|exact Co_nn rfl);exact rfl;(with_reducible exact zA7);assumption;omega;exact fun _=>rfl)|apply ay (hd:=rfl)|exact zAE rfl|exact zAC rfl|(apply zAg;exact rfl;(with_reducible exact zAs))|(apply zAl;exact rfl;(with_reducible exact zDK))|exact zAb rfl|exact zAZ rfl|(apply zAR;exact rfl;(with_reducible first|exact fy_3|exact fn_0))|(apply zAU;exact rfl;(with_reducible first|exact zAe|exact zCf);exact rfl;exact rfl)|(refine w0' ?_)|exact zAK rfl|exact zAQ rfl|apply zAI|apply zAP|apply zAM|apply en_r|apply eb_r
  exact zAq (zAO (zAA rfl zAa) (zAD rfl rfl (zAD rfl rfl (zAD rfl rfl zAN))) rfl rfl)
end Go.Proofs.YtblomnkamngnbaaGreatDoor
namespace Go.Proofs.YtblomnkamngnbaaGreatDoor
open Go.Sx
attribute [local irreducible] zAT Program.underlying Ylds zBA alex zBc zBO awp zAj zBX RCall zA2 zBH zBQ zA8 zBT zBZ zBd zBr zBN zEE VCall segC
set_option maxHeartbeats 4000000 in
theorem zTx {L : List Nd} {E : List Sg} {q m : Nat} (hL : L.length ≤ 2000000) (ih : zGl L E q m) (n : Nat) (x : Nd) (ks : List Tr) (N : List Lc) (S S' : TS) (r : List Nd) (hk : x.kind = 9) (hm : (Tr.mk x ks).sz ≤ m + 1) (h : At L n (.mk x ks)) (hw : (Tr.mk x ks).werr false = 0) (hz : (Tr.mk x ks).sz ≤ 4500) (hA : Ask E N S (Tr.mk x ks).sz) (h0 : S.er = 0) (hp : (Tr.mk x ks).expS q E N S = some (r,S')) :
    zA2 Tryz.prog 39 [.ptr 0 0,.d (i64 (n : Int)),.d (locs N)] (tyO L E S) (.d (zAc r)) (tyO L E S'):=by
  have hx:=h.here
  have hlen : n < L.length:=(List.getElem?_eq_some_iff.1 hx).1
  have hkid:=zCa L (n : Int) hL
  obtain ⟨a,b,c,rfl⟩:=zR2 h.wf (by have:=(zC3 hw).2;rw [hk] at this;simpa [cntK] using this)
  have hwk:=(zC0 hw).2
  have hwf:=h.wf
  rw [Tr.wf] at hwf
  have hwf2:=zCT.1 hwf.2
  have hsz : (Tr.mk x [a,b,c]).sz = a.sz + b.sz + c.sz + 1:=by simp only [Tr.sz,szL,Nat.add_zero] <;> omega
  have hk0:=h.kids_get (i:=0) (by simp)
  have hat0:=h.kid (i:=0) (k:=a) rfl
  have hw0 : a.werr false = 0:=by simpa [hk] using zBY (j:=0) hwk (k:=a) rfl
  have hf0:=hwf2 a (by simp)
  have hk1:=h.kids_get (i:=1) (by simp)
  have hat1:=h.kid (i:=1) (k:=b) rfl
  have hw1 : b.werr false = 0:=by simpa [hk] using zBY (j:=1) hwk (k:=b) rfl
  have hf1:=hwf2 b (by simp)
  have hk2:=h.kids_get (i:=2) (by simp)
  have hat2:=h.kid (i:=2) (k:=c) rfl
  have hw2 : c.werr false = 0:=by simpa [hk] using zBY (j:=2) hwk (k:=c) rfl
  have hf2:=hwf2 c (by simp)
  generalize kidAt n [a,b,c] 0 = p0 at *
  generalize kidAt n [a,b,c] 1 = p1 at *
  generalize kidAt n [a,b,c] 2 = p2 at *
  obtain ⟨t,S1,S2,S3,u,S4,h1,h2,h3,h4,h5⟩:=zT1 h0 hk hp
  have hpa:=zBR a
  have hpb:=zBR b
  have hpc:=zBR c
  obtain ⟨b01,b02⟩:=zBk hA.t a.sz a (Nat.le_refl _) hf0 hw0 (by omega) hA.ok h1
  obtain ⟨b11,b12⟩:=zBk hA.t b.sz b (Nat.le_refl _) hf1 hw1 (by omega) hA.ok h3
  obtain ⟨b21,b22⟩:=zBk hA.t c.sz c (Nat.le_refl _) hf2 hw2 (by omega) hA.ok h4
  have hA0:=hA.go (Up.refl S) hA.ok (k1:=a.sz) (by omega) (by omega)
  have hA1:=hA.go (b01.trans (zB9 h2)) hA.ok (k1:=b.sz) (by omega) (by omega)
  have hA2:=hA.go ((b01.trans (zB9 h2)).trans b11) hA.ok (k1:=c.sz) (by omega) (by omega)
  have hA3:=hA.go (((b01.trans (zB9 h2)).trans b11).trans b21) hA.ok (k1:=1) (by omega) (by omega)
  have hA9:=hA.go b01 hA.ok (k1:=1) (by omega) (by omega)
  have hpl:=zED intT
  have hce0:=ih p0 a N S S1 t (by omega) hat0 hw0 (by omega) hA0 h1
  have hce1:=ih p1 b N S2 S3 r (by omega) hat1 hw1 (by omega) hA1 h3
  have hce2:=ih p2 c N S3 S4 u (by omega) hat2 hw2 (by omega) hA2 h4
  have hsm:=zC6 L E S1 S2 q t (zBx intT) (by omega) (by simp [zBx]) hA9.st h2
  have hsm2:=zC6 L E S4 S' q r u (by omega) (by omega) hA3.st h5
  clear hp h1 h2 h3 h4 h5 hwk hwf2 hwf
  generalize zBV L (n : Int) = KK at *
  refine zA1 Tryz.func39 rfl Tryz.ntmps39 Tryz.results39 rfl rfl rfl ?_
  intro wb St0 X fx
  repeat' first | (refine zBs (id:=36) (s:=[(0,.ptr 0 0),(2,.d (tslN N)),(7,.ptr 3 0),(8,.d (zBj KK))]) (h:=anch fx 0 (tyO L E S) (tyO L E S2) ++ [ndB x]) (zAO (zAA rfl (zAA rfl (zAA rfl (zAA rfl zAa)))) (zAD rfl rfl (zAD rfl rfl (zAD rfl rfl (zAD rfl rfl zAN)))) rfl rfl) ?_)|(refine zBs (id:=37) (s:=[(0,.ptr 0 0),(2,.d (tslN N)),(7,.ptr 3 0),(8,.d (zBj KK)),(17,.d (zAc r))]) (h:=anch fx 0 (tyO L E S) (tyO L E S3) ++ [ndB x]) (zAO (zAA rfl (zAA rfl (zAA rfl (zAA rfl (zAA rfl zAa))))) (zAD rfl rfl (zAD rfl rfl (zAD rfl rfl (zAD rfl rfl zAN)))) rfl rfl) ?_)|exact zCd rfl|(refine zBs (id:=5) (s:=[(0,.ptr 0 0),(2,.d (tslN N)),(7,.ptr 3 0),(8,.d (zBj KK))]) (h:=anch fx 0 (tyO L E S) (tyO L E S) ++ [ndB x]) (zAO (zAA rfl (zAA rfl (zAA rfl (zAA rfl zAa)))) (zAD rfl rfl (zAD rfl rfl (zAD rfl rfl (zGk rfl zEK zAN)))) rfl rfl) ?_)|(refine zB0 (id:=4) [.y (.ptr 0 0),.y (.ptr 0 0),.y (.ptr 0 1),.y (.d (zAc L)),.y (.d (i64 (n : Int))),.y (.rptr x.av.flat),.y (.d (.agg (x.av.flat.take 4))),.y (.ptr 0 0),.y (.ptr 0 0),.y (.ptr 0 1),.y (.d (zAc L)),.y (.d (i64 (n : Int))),.y (.d (zBj KK)),.mk ⟨7,zsN,40,zsN.map cst⟩ none] (by kernel_rfl) (by kernel_rfl) (.inr (by kernel_rfl)) ⟨⟨rfl,zAZ rfl⟩,rfl,⟨rfl,zAo rfl⟩,rfl,⟨rfl,zAR rfl fy_1⟩,rfl,⟨rfl,zAU rfl zAn rfl rfl⟩,rfl,⟨rfl,zAE rfl⟩,rfl,⟨rfl,zE3 hx rfl rfl zAW⟩,rfl,⟨rfl,zAf rfl zAY rfl⟩,rfl,⟨rfl,zAZ rfl⟩,rfl,⟨rfl,zAo rfl⟩,rfl,⟨rfl,zAR rfl fy_1⟩,rfl,⟨rfl,zAU rfl zAn rfl rfl⟩,rfl,⟨rfl,zAE rfl⟩,rfl,⟨rfl,zAV zCV hkid (zAX rfl (zAX rfl zAG))⟩,rfl,⟨rfl,rfl,rfl,zAp,by kernel_rfl,rfl⟩,rfl,trivial⟩ ?_)|apply en_n|apply zAH|apply zAB|apply zAF|apply w0|(apply zHR;exact zAk rfl;(with_reducible exact zBw);exact rfl;exact rfl;exact (by simp);exact zDH N)|(refine zC5 (by kernel_rfl) ?_;apply zAx;exact rfl;exact rfl;exact rfl;(with_reducible exact zAY);exact rfl;exact rfl;exact rfl;exact rfl)|(apply zBD;exact rfl;exact rfl;first|assumption|omega)|(apply zA9;exact rfl;exact rfl;first|assumption|omega)|(apply zBS;exact rfl;exact rfl;first|assumption|omega)|exact zAo rfl|(refine zA3 [0,1,2] zDE (hce0) ?_ rfl rfl (by decide) rfl rfl rfl rfl rfl rfl ?_;(repeat (refine zAL rfl ?_));exact zAS)|(refine zA3 [0,1,2] zDE (hce1) ?_ rfl rfl (by decide) rfl rfl rfl rfl rfl rfl ?_;(repeat (refine zAL rfl ?_));exact zAS)|(refine zA3 [0,1,2] zDE (hce2) ?_ rfl rfl (by decide) rfl rfl rfl rfl rfl rfl ?_;(repeat (refine zAL rfl ?_));exact zAS)|(refine zA3 [0,1,2] zCN (hsm) ?_ rfl rfl (by decide) rfl rfl rfl rfl rfl rfl ?_;(repeat (refine zAL rfl ?_));exact zAS)|(refine zA3 [0,1,2] zCN (hsm2) ?_ rfl rfl (by decide) rfl rfl rfl rfl rfl rfl ?_;(repeat (refine zAL rfl ?_));exact zAS)|(refine zAV zDn hpl (zAX rfl zAG))|(apply aJ (hd:=rfl);(first|exact zAk rfl|exact Co_bb rfl rfl rfl|exact Co_nn rfl);exact rfl;(with_reducible exact zA7);assumption;omega;exact fun _=>rfl)|apply ay (hd:=rfl)|exact zAE rfl|exact zAC rfl|(apply zAg;exact rfl;(with_reducible exact zAs))|(apply zAl;exact rfl;(with_reducible exact zDK))|exact zAb rfl|exact zAZ rfl|(apply zAR;exact rfl;(with_reducible first|exact fy_3|exact fn_0))|(apply zAU;exact rfl;(with_reducible first|exact zAe|exact zCf);exact rfl;exact rfl)|(refine w0' ?_)|exact zAK rfl|exact zAQ rfl|apply zAI|apply zAP|apply zAM|apply en_r|apply eb_r
  exact zAq (zAO (zAA rfl zAa) (zAD rfl rfl (zAD rfl rfl (zAD rfl rfl zAN))) rfl rfl)
end Go.Proofs.YtblomnkamngnbaaGreatDoor
namespace Go.Proofs.YtblomnkamngnbaaGreatDoor
open Go.Sx
attribute [local irreducible] zAT Program.underlying Ylds zBA alex zBc zBO awp zAj zBX RCall zA2 zBH zBQ zA8 zBT zBZ zBd zBr zBN zEE VCall segC
set_option maxHeartbeats 4000000 in
theorem zPg {L : List Nd} {E : List Sg} {q m : Nat} (hL : L.length ≤ 2000000) (ih : zGl L E q m) (n : Nat) (x : Nd) (ks : List Tr) (N : List Lc) (S S' : TS) (r : List Nd) (hk : x.kind = 11) (hm : (Tr.mk x ks).sz ≤ m + 1) (h : At L n (.mk x ks)) (hw : (Tr.mk x ks).werr false = 0) (hz : (Tr.mk x ks).sz ≤ 4500) (hA : Ask E N S (Tr.mk x ks).sz) (h0 : S.er = 0) (hp : (Tr.mk x ks).expS q E N S = some (r,S')) :
    zA2 Tryz.prog 39 [.ptr 0 0,.d (i64 (n : Int)),.d (locs N)] (tyO L E S) (.d (zAc r)) (tyO L E S'):=by
  have hx:=h.here
  have hlen : n < L.length:=(List.getElem?_eq_some_iff.1 hx).1
  have hkid:=zCa L (n : Int) hL
  obtain ⟨a,rfl⟩:=zMw h.wf (by have:=(zC3 hw).2;rw [hk] at this;simpa [cntK] using this)
  have hwk:=(zC0 hw).2
  have hwf:=h.wf
  rw [Tr.wf] at hwf
  have hwf2:=zCT.1 hwf.2
  have hsz : (Tr.mk x [a]).sz = a.sz + 1:=by simp only [Tr.sz,szL,Nat.add_zero] <;> omega
  have hk0:=h.kids_get (i:=0) (by simp)
  have hat0:=h.kid (i:=0) (k:=a) rfl
  have hw0 : a.werr false = 0:=by simpa [hk] using zBY (j:=0) hwk (k:=a) rfl
  have hf0:=hwf2 a (by simp)
  generalize kidAt n [a] 0 = p0 at *
  obtain ⟨t,S1,S2,h1,h2,rfl,rfl⟩:=zR9 h0 hk hp
  have hpa:=zBR a
  obtain ⟨b01,b02⟩:=zBk hA.t a.sz a (Nat.le_refl _) hf0 hw0 (by omega) hA.ok h1
  have hA0:=hA.go (Up.refl S) hA.ok (k1:=a.sz) (by omega) (by omega)
  have hA9:=hA.go b01 hA.ok (k1:=1) (by omega) (by omega)
  have hA8:=hA.go (b01.trans (zB9 h2)) hA.ok (k1:=1) (by omega) (by omega)
  have hpl:=zED intT
  have hce0:=ih p0 a N S S1 t (by omega) hat0 hw0 (by omega) hA0 h1
  have hsm:=zC6 L E S1 S2 q t (zBx intT) (by omega) (by simp [zBx]) hA9.st h2
  have hnx:=zFA L E S2 (by have:=hA8.nx;omega)
  clear hp h1 h2 hwk hwf2 hwf
  generalize zBV L (n : Int) = KK at *
  refine zA1 Tryz.func39 rfl Tryz.ntmps39 Tryz.results39 rfl rfl rfl ?_
  intro wb St0 X fx
  repeat' first | exact zCd rfl|(refine zBs (id:=5) (s:=[(0,.ptr 0 0),(2,.d (tslN N)),(7,.ptr 3 0),(8,.d (zBj KK))]) (h:=anch fx 0 (tyO L E S) (tyO L E S) ++ [ndB x]) (zAO (zAA rfl (zAA rfl (zAA rfl (zAA rfl zAa)))) (zAD rfl rfl (zAD rfl rfl (zAD rfl rfl (zGk rfl zEK zAN)))) rfl rfl) ?_)|(refine zB0 (id:=4) [.y (.ptr 0 0),.y (.ptr 0 0),.y (.ptr 0 1),.y (.d (zAc L)),.y (.d (i64 (n : Int))),.y (.rptr x.av.flat),.y (.d (.agg (x.av.flat.take 4))),.y (.ptr 0 0),.y (.ptr 0 0),.y (.ptr 0 1),.y (.d (zAc L)),.y (.d (i64 (n : Int))),.y (.d (zBj KK)),.mk ⟨7,zsN,40,zsN.map cst⟩ none] (by kernel_rfl) (by kernel_rfl) (.inr (by kernel_rfl)) ⟨⟨rfl,zAZ rfl⟩,rfl,⟨rfl,zAo rfl⟩,rfl,⟨rfl,zAR rfl fy_1⟩,rfl,⟨rfl,zAU rfl zAn rfl rfl⟩,rfl,⟨rfl,zAE rfl⟩,rfl,⟨rfl,zE3 hx rfl rfl zAW⟩,rfl,⟨rfl,zAf rfl zAY rfl⟩,rfl,⟨rfl,zAZ rfl⟩,rfl,⟨rfl,zAo rfl⟩,rfl,⟨rfl,zAR rfl fy_1⟩,rfl,⟨rfl,zAU rfl zAn rfl rfl⟩,rfl,⟨rfl,zAE rfl⟩,rfl,⟨rfl,zAV zCV hkid (zAX rfl (zAX rfl zAG))⟩,rfl,⟨rfl,rfl,rfl,zAp,by kernel_rfl,rfl⟩,rfl,trivial⟩ ?_)|apply en_n|apply zAH|apply zAB|apply zAF|apply w0|(apply zHR;exact zAk rfl;(with_reducible exact zBw);exact rfl;exact rfl;exact (by simp);exact zDH N)|(refine zC5 (by kernel_rfl) ?_;apply zAx;exact rfl;exact rfl;exact rfl;(with_reducible exact zAY);exact rfl;exact rfl;exact rfl;exact rfl)|(apply zBD;exact rfl;exact rfl;first|assumption|omega)|(apply zA9;exact rfl;exact rfl;first|assumption|omega)|(apply zBS;exact rfl;exact rfl;first|assumption|omega)|exact zAo rfl|(refine zA3 [0,1,2] zDE (hce0) ?_ rfl rfl (by decide) rfl rfl rfl rfl rfl rfl ?_;(repeat (refine zAL rfl ?_));exact zAS)|(refine zA3 [0,1,2] zCN (hsm) ?_ rfl rfl (by decide) rfl rfl rfl rfl rfl rfl ?_;(repeat (refine zAL rfl ?_));exact zAS)|(refine zA3 [0,1,2] zD2 (hnx) ?_ rfl rfl (by decide) rfl rfl rfl rfl rfl rfl ?_;(repeat (refine zAL rfl ?_));exact zAS)|(refine zAV zDn hpl (zAX rfl zAG))|(apply aJ (hd:=rfl);(first|exact zAk rfl|exact Co_bb rfl rfl rfl|exact Co_nn rfl);exact rfl;(with_reducible exact zA7);assumption;omega;exact fun _=>rfl)|apply ay (hd:=rfl)|exact zAE rfl|exact zAC rfl|(apply zAg;exact rfl;(with_reducible exact zAs))|(apply zAl;exact rfl;(with_reducible exact zDK))|exact zAb rfl|exact zAZ rfl|(apply zAR;exact rfl;(with_reducible first|exact fy_3|exact fn_0))|(apply zAU;exact rfl;(with_reducible first|exact zAe|exact zCf);exact rfl;exact rfl)|(refine w0' ?_)|exact zAK rfl|exact zAQ rfl|apply zAI|apply zAP|apply zAM|apply en_r|apply eb_r
  exact zAq (zAO (zAA rfl zAa) (zAD rfl rfl (zAD rfl rfl (zAD rfl rfl zAN))) rfl rfl)
set_option maxHeartbeats 4000000 in
theorem zSw {L : List Nd} {E : List Sg} {q m : Nat} (hL : L.length ≤ 2000000) (ih : zGl L E q m) (n : Nat) (x : Nd) (ks : List Tr) (N : List Lc) (S S' : TS) (r : List Nd) (hk : x.kind = 12) (hm : (Tr.mk x ks).sz ≤ m + 1) (h : At L n (.mk x ks)) (hw : (Tr.mk x ks).werr false = 0) (hz : (Tr.mk x ks).sz ≤ 4500) (hA : Ask E N S (Tr.mk x ks).sz) (h0 : S.er = 0) (hp : (Tr.mk x ks).expS q E N S = some (r,S')) :
    zA2 Tryz.prog 39 [.ptr 0 0,.d (i64 (n : Int)),.d (locs N)] (tyO L E S) (.d (zAc r)) (tyO L E S'):=by
  have hx:=h.here
  have hlen : n < L.length:=(List.getElem?_eq_some_iff.1 hx).1
  have hkid:=zCa L (n : Int) hL
  obtain ⟨a,b,rfl⟩:=zHF h.wf (by have:=(zC3 hw).2;rw [hk] at this;simpa [cntK] using this)
  have hwk:=(zC0 hw).2
  have hwf:=h.wf
  rw [Tr.wf] at hwf
  have hwf2:=zCT.1 hwf.2
  have hsz : (Tr.mk x [a,b]).sz = a.sz + b.sz + 1:=by simp only [Tr.sz,szL,Nat.add_zero] <;> omega
  have hk0:=h.kids_get (i:=0) (by simp)
  have hat0:=h.kid (i:=0) (k:=a) rfl
  have hw0 : a.werr false = 0:=by simpa [hk] using zBY (j:=0) hwk (k:=a) rfl
  have hf0:=hwf2 a (by simp)
  have hk1:=h.kids_get (i:=1) (by simp)
  have hat1:=h.kid (i:=1) (k:=b) rfl
  have hw1 : b.werr false = 0:=by simpa [hk] using zBY (j:=1) hwk (k:=b) rfl
  have hf1:=hwf2 b (by simp)
  generalize kidAt n [a,b] 0 = p0 at *
  generalize kidAt n [a,b] 1 = p1 at *
  obtain ⟨S1,u,S2,h1,h2,h3⟩:=zR8 h0 hk hp
  have hpa:=zBR a
  have hpb:=zBR b
  have hlk : LcOk ⟨x.text,zBx intT,[]⟩:=⟨by simp [zBx],by simp⟩
  obtain ⟨b01,b02⟩:=zBk hA.t a.sz a (Nat.le_refl _) hf0 hw0 (by omega) hA.ok h1
  obtain ⟨b11,b12⟩:=zBk hA.t b.sz b (Nat.le_refl _) hf1 hw1 (by omega) (hA.ok.app hlk) h2
  have hA0:=hA.go (Up.refl S) hA.ok (k1:=a.sz) (by omega) (by omega)
  have hA1:=hA.go b01 (hA.ok.app hlk) (k1:=b.sz) (by simp;omega) (by omega)
  have hA2:=hA.go (b01.trans b11) hA.ok (k1:=1) (by omega) (by omega)
  have hpl:=zED intT
  have hce0:=ih p0 a N S S1 r (by omega) hat0 hw0 (by omega) hA0 h1
  have hce1:=ih p1 b (N ++ [⟨x.text,zBx intT,[]⟩]) S1 S2 u (by omega) hat1 hw1 (by omega) hA1 h2
  rw [show locs (N ++ [⟨x.text,zBx intT,[]⟩]) = .slice (N.map Lc.av ++ [Lc.av ⟨x.text,zBx intT,[]⟩]) by simp [locs]] at hce1
  have hsm:=zC6 L E S2 S' q r u (by omega) (by omega) hA2.st h3
  have hcap : ((N.map Lc.av).length + 1) * 64 ≤ 140737488355328 ∧ (N.map Lc.av).length + 1 ≤ 140737488355328:=by have:=hA.n;rw [List.length_map];omega
  clear hp h1 h2 h3 hwk hwf2 hwf
  generalize zBV L (n : Int) = KK at *
  refine zA1 Tryz.func39 rfl Tryz.ntmps39 Tryz.results39 rfl rfl rfl ?_
  intro wb St0 X fx
  repeat' first | (refine zBs (id:=5) (s:=[(0,.ptr 0 0),(2,.d (tslN N)),(7,.ptr 3 0),(8,.d (zBj KK))]) (h:=anch fx 0 (tyO L E S) (tyO L E S) ++ [ndB x]) (zAO (zAA rfl (zAA rfl (zAA rfl (zAA rfl zAa)))) (zAD rfl rfl (zAD rfl rfl (zAD rfl rfl (zGk rfl zEK zAN)))) rfl rfl) ?_)|(refine zB0 (id:=4) [.y (.ptr 0 0),.y (.ptr 0 0),.y (.ptr 0 1),.y (.d (zAc L)),.y (.d (i64 (n : Int))),.y (.rptr x.av.flat),.y (.d (.agg (x.av.flat.take 4))),.y (.ptr 0 0),.y (.ptr 0 0),.y (.ptr 0 1),.y (.d (zAc L)),.y (.d (i64 (n : Int))),.y (.d (zBj KK)),.mk ⟨7,zsN,40,zsN.map cst⟩ none] (by kernel_rfl) (by kernel_rfl) (.inr (by kernel_rfl)) ⟨⟨rfl,zAZ rfl⟩,rfl,⟨rfl,zAo rfl⟩,rfl,⟨rfl,zAR rfl fy_1⟩,rfl,⟨rfl,zAU rfl zAn rfl rfl⟩,rfl,⟨rfl,zAE rfl⟩,rfl,⟨rfl,zE3 hx rfl rfl zAW⟩,rfl,⟨rfl,zAf rfl zAY rfl⟩,rfl,⟨rfl,zAZ rfl⟩,rfl,⟨rfl,zAo rfl⟩,rfl,⟨rfl,zAR rfl fy_1⟩,rfl,⟨rfl,zAU rfl zAn rfl rfl⟩,rfl,⟨rfl,zAE rfl⟩,rfl,⟨rfl,zAV zCV hkid (zAX rfl (zAX rfl zAG))⟩,rfl,⟨rfl,rfl,rfl,zAp,by kernel_rfl,rfl⟩,rfl,trivial⟩ ?_)|(apply zG5 (id:=44) (ids:=[0,1,2]) (ss:=[.ptr 0 0,.d (zAc r),.ptr 0 0,.d (zBj KK),.rptr (ival (p1 : Int)).flat,.d (ival (p1 : Int)),.d (tslN N),.ptr 3 (0 + 1),.d (str x.text),.d (zAc (zBx intT)),.d (Lc.av ⟨x.text,zBx intT,[]⟩),.d (.slice [Lc.av ⟨x.text,zBx intT,[]⟩]),.d (.slice (N.map Lc.av ++ [Lc.av ⟨x.text,zBx intT,[]⟩])),.d (zAc u),.top]) (e:=13) (f:=14);kernel_rfl;kernel_rfl;exact rfl;exact .inl rfl;exact rfl;exact rfl;exact rfl;kernel_rfl)|apply en_n|apply zAH|apply zAB|apply zAF|apply w0|(apply zCd (dst:=some 226);exact rfl)|(apply zHR;exact zAk rfl;(with_reducible exact zBw);exact rfl;exact rfl;exact (by simp);exact zDH N)|(refine zC5 (by kernel_rfl) ?_;apply zAx;exact rfl;exact rfl;exact rfl;(with_reducible exact zAY);exact rfl;exact rfl;exact rfl;exact rfl)|(apply zBD;exact rfl;exact rfl;first|assumption|omega)|(apply zA9;exact rfl;exact rfl;first|assumption|omega)|(apply zBS;exact rfl;exact rfl;first|assumption|omega)|exact zAo rfl|(refine zA3 [0,1,2] zDE (hce0) ?_ rfl rfl (by decide) rfl rfl rfl rfl rfl rfl ?_;(repeat (refine zAL rfl ?_));exact zAS)|(refine zAV zDn hpl (zAX rfl zAG))|exact zGE|(apply zGp (hb:=zDE) (hc:=hce1);exact rfl;((repeat (refine zAL rfl ?_));exact zAS);exact rfl;exact rfl;exact (by decide);exact rfl;exact rfl;exact rfl;exact rfl;exact rfl;exact rfl;exact rfl;exact rfl;exact rfl;exact rfl)|(apply zLn (hb:=zCN) (hc:=hsm);exact rfl;((repeat (refine zAL rfl ?_));exact zAS);exact rfl;exact rfl;exact (by decide);exact rfl;exact rfl;exact rfl;exact rfl;exact rfl;exact rfl;exact rfl;exact rfl;exact rfl;exact rfl)|(refine zKT rfl rfl rfl rfl ?_ ?_)|apply zFP|exact zGj|(apply zHA;exact hk1;exact rfl;exact rfl;exact zA7)|(apply zJP (ys:=[Lc.av ⟨x.text,zBx intT,[]⟩]);exact rfl;exact zAk rfl;exact rfl;(with_reducible exact zCY);(with_reducible exact zBw);(with_reducible exact zHB);(with_reducible exact zFK);exact zDH N;exact zCA rfl;exact hcap)|(apply zBE (cs:=Lc.cells ⟨x.text,zBx intT,[]⟩);exact zHE;exact zEz;exact PD_d rfl rfl (PD_d rfl rfl (PD_n rfl zBy));exact rfl)|(apply aJ (hd:=rfl);(first|exact zAk rfl|exact Co_bb rfl rfl rfl|exact Co_nn rfl);exact rfl;(with_reducible exact zA7);assumption;omega;exact fun _=>rfl)|apply ay (hd:=rfl)|exact zAE rfl|exact zAC rfl|(apply zAg;exact rfl;(with_reducible exact zAs))|(apply zAl;exact rfl;(with_reducible exact zDK))|exact zAb rfl|exact zAZ rfl|(apply zAR;exact rfl;(with_reducible first|exact fy_3|exact fn_0|exact fn_1))|(apply zAU;exact rfl;(with_reducible first|exact zAe|exact zAv|exact zCf);exact rfl;exact rfl)|(apply zB8;(with_reducible exact zCY);(with_reducible exact zBw);(with_reducible exact zHl);exact rfl;exact rfl;(first|exact zAX rfl zAG|exact zCx rfl rfl rfl zAG|exact zDB rfl zAG);exact rfl)|(refine w0' ?_)|exact zAK rfl|exact zAQ rfl|apply zAI|apply zAP|apply zAM|apply en_r|apply eb_r
  exact zAq (zAO (zAA rfl zAa) (zAD rfl rfl (zAD rfl rfl (zAD rfl rfl zAN))) rfl rfl)
end Go.Proofs.YtblomnkamngnbaaGreatDoor
namespace Go.Proofs.YtblomnkamngnbaaGreatDoor
open Go.Sx
attribute [local irreducible] zAT Program.underlying Ylds zBA alex zBc zBO awp zAj zBX RCall zA2 zBH zBQ zA8 zBT zBZ zBd zBr zBN zEE VCall segC
set_option maxHeartbeats 4000000 in
theorem zRR {L : List Nd} {E : List Sg} {q m : Nat} (hL : L.length ≤ 2000000) (ih : zGl L E q m) (n : Nat) (x : Nd) (ks : List Tr) (N : List Lc) (S S' : TS) (r : List Nd) (hk : x.kind = 7) (hm : (Tr.mk x ks).sz ≤ m + 1) (h : At L n (.mk x ks)) (hw : (Tr.mk x ks).werr false = 0) (hz : (Tr.mk x ks).sz ≤ 4500) (hA : Ask E N S (Tr.mk x ks).sz) (h0 : S.er = 0) (a b : Tr) (hks : ks = [a,b]) (hv : a.val = true) (hp : (Tr.mk x ks).expS q E N S = some (r,S')) :
    zA2 Tryz.prog 39 [.ptr 0 0,.d (i64 (n : Int)),.d (locs N)] (tyO L E S) (.d (zAc r)) (tyO L E S'):=by
  have hx:=h.here
  have hlen : n < L.length:=(List.getElem?_eq_some_iff.1 hx).1
  have hkid:=zCa L (n : Int) hL
  subst hks
  have hwk:=(zC0 hw).2
  have hwf:=h.wf
  rw [Tr.wf] at hwf
  have hwf2:=zCT.1 hwf.2
  have hsz : (Tr.mk x [a,b]).sz = a.sz + b.sz + 1:=by simp only [Tr.sz,szL,Nat.add_zero] <;> omega
  have hk0:=h.kids_get (i:=0) (by simp)
  have hat0:=h.kid (i:=0) (k:=a) rfl
  have hw0 : a.werr false = 0:=by simpa [hk] using zBY (j:=0) hwk (k:=a) rfl
  have hf0:=hwf2 a (by simp)
  have hk1:=h.kids_get (i:=1) (by simp)
  have hat1:=h.kid (i:=1) (k:=b) rfl
  have hw1 : b.werr false = 0:=by simpa [hk] using zBY (j:=1) hwk (k:=b) rfl
  have hf1:=hwf2 b (by simp)
  generalize kidAt n [a,b] 0 = p0 at *
  generalize kidAt n [a,b] 1 = p1 at *
  obtain ⟨t,S1,h1,h2⟩:=zS1 h0 hk hp
  have hpa:=zBR a
  have hpb:=zBR b
  obtain ⟨b01,b02⟩:=zBk hA.t a.sz a (Nat.le_refl _) hf0 hw0 (by omega) hA.ok h1
  rcases h2 with ⟨_,y,S2,h3,h4⟩ | ⟨h3,_⟩
  case inr=>rw [hv] at h3;cases h3
  obtain ⟨d1,hlk⟩:=zJ8 (by omega) h3
  obtain ⟨b11,b12⟩:=zBk hA.t b.sz b (Nat.le_refl _) hf1 hw1 (by omega) (hA.ok.app hlk) h4
  have hA0:=hA.go (Up.refl S) hA.ok (k1:=a.sz) (by omega) (by omega)
  have hA9:=hA.go b01 hA.ok (k1:=1) (by omega) (by omega)
  have hA1:=hA.go (b01.trans d1) (hA.ok.app hlk) (k1:=b.sz) (by simp;omega) (by omega)
  have hce0:=ih p0 a N S S1 t (by omega) hat0 hw0 (by omega) hA0 h1
  have hce1:=ih p1 b (N ++ [y]) S2 S' r (by omega) hat1 hw1 (by omega) hA1 h4
  rw [show locs (N ++ [y]) = .slice (N.map Lc.av ++ [Lc.av y]) by simp [locs]] at hce1
  have hvl:=zHU L hL a.sz p0 a (Nat.le_refl _) hat0 hw0
  rw [hv] at hvl
  have hay:=zSC L E S1 S2 q x.text t N y (by omega) (by have:=hA.n;omega) (fun l hl=>⟨(hA.ok l hl).1,by have:=(hA.ok l hl).2;omega⟩) hA9.st h3
  have hcap : ((N.map Lc.av).length + 1) * 64 ≤ 140737488355328 ∧ (N.map Lc.av).length + 1 ≤ 140737488355328:=by have:=hA.n;rw [List.length_map];omega
  clear hp h1 h4 hwk hwf2 hwf
  generalize zBV L (n : Int) = KK at *
  refine zA1 Tryz.func39 rfl Tryz.ntmps39 Tryz.results39 rfl rfl rfl ?_
  intro wb St0 X fx
  repeat' first | (refine zBs (id:=26) (s:=[(0,.ptr 0 0),(2,.d (tslN N)),(7,.ptr 3 0),(8,.d (zBj KK)),(14,.d (zAc t))]) (h:=anch fx 0 (tyO L E S) (tyO L E S1) ++ [ndB x]) (zAO (zAA rfl (zAA rfl (zAA rfl (zAA rfl (zAA rfl zAa))))) (zAD rfl rfl (zAD rfl rfl (zAD rfl rfl (zAD rfl rfl zAN)))) rfl rfl) ?_)|(refine zBs (id:=29) (s:=[(0,.ptr 0 0),(2,.d (tslN N)),(7,.ptr 3 0),(8,.d (zBj KK)),(15,.ptr 4 0)]) (h:=anch fx 0 (tyO L E S) (tyO L E S2) ++ [ndB x,.bx none none ((Lc.cells y).map .d)]) (zAO (zAA rfl (zAA rfl (zAA rfl (zAA rfl (zAA rfl zAa))))) (zAD rfl rfl (zAD rfl rfl (zAD rfl rfl (zAD rfl rfl (zAD rfl rfl zAN))))) rfl rfl) ?_)|exact zCd rfl|(refine zBs (id:=5) (s:=[(0,.ptr 0 0),(2,.d (tslN N)),(7,.ptr 3 0),(8,.d (zBj KK))]) (h:=anch fx 0 (tyO L E S) (tyO L E S) ++ [ndB x]) (zAO (zAA rfl (zAA rfl (zAA rfl (zAA rfl zAa)))) (zAD rfl rfl (zAD rfl rfl (zAD rfl rfl (zGk rfl zEK zAN)))) rfl rfl) ?_)|(refine zB0 (id:=4) [.y (.ptr 0 0),.y (.ptr 0 0),.y (.ptr 0 1),.y (.d (zAc L)),.y (.d (i64 (n : Int))),.y (.rptr x.av.flat),.y (.d (.agg (x.av.flat.take 4))),.y (.ptr 0 0),.y (.ptr 0 0),.y (.ptr 0 1),.y (.d (zAc L)),.y (.d (i64 (n : Int))),.y (.d (zBj KK)),.mk ⟨7,zsN,40,zsN.map cst⟩ none] (by kernel_rfl) (by kernel_rfl) (.inr (by kernel_rfl)) ⟨⟨rfl,zAZ rfl⟩,rfl,⟨rfl,zAo rfl⟩,rfl,⟨rfl,zAR rfl fy_1⟩,rfl,⟨rfl,zAU rfl zAn rfl rfl⟩,rfl,⟨rfl,zAE rfl⟩,rfl,⟨rfl,zE3 hx rfl rfl zAW⟩,rfl,⟨rfl,zAf rfl zAY rfl⟩,rfl,⟨rfl,zAZ rfl⟩,rfl,⟨rfl,zAo rfl⟩,rfl,⟨rfl,zAR rfl fy_1⟩,rfl,⟨rfl,zAU rfl zAn rfl rfl⟩,rfl,⟨rfl,zAE rfl⟩,rfl,⟨rfl,zAV zCV hkid (zAX rfl (zAX rfl zAG))⟩,rfl,⟨rfl,rfl,rfl,zAp,by kernel_rfl,rfl⟩,rfl,trivial⟩ ?_)|(apply zG6 (id:=29) (ids:=[0,1,2]) (ss:=[.ptr 0 0,.d (zBj KK),.rptr (ival (p1 : Int)).flat,.d (ival (p1 : Int)),.d (tslN N),.d (Lc.av y),.d (.slice [Lc.av y]),.d (.slice (N.map Lc.av ++ [Lc.av y])),.d (zAc r)]) (e:=8);kernel_rfl;kernel_rfl;exact rfl;exact .inr (by kernel_rfl);exact rfl)|apply en_n|apply zAH|apply zAB|apply zAF|apply w0|(apply zHR;exact zAk rfl;(with_reducible exact zBw);exact rfl;exact rfl;exact (by simp);exact zDH N)|(refine zC5 (by kernel_rfl) ?_;apply zAx;exact rfl;exact rfl;exact rfl;(with_reducible exact zAY);exact rfl;exact rfl;exact rfl;exact rfl)|(apply zBD;exact rfl;exact rfl;first|assumption|omega)|(apply zA9;exact rfl;exact rfl;first|assumption|omega)|(apply zBS;exact rfl;exact rfl;first|assumption|omega)|exact zAo rfl|(refine zA3 [0,1,2] zDE (hce0) ?_ rfl rfl (by decide) rfl rfl rfl rfl rfl rfl ?_;(repeat (refine zAL rfl ?_));exact zAS)|(refine zA3 [0,1,2] zR3 (hay) ?_ rfl rfl (by decide) rfl rfl rfl rfl rfl rfl ?_;(repeat (refine zAL rfl ?_));exact zAS)|(refine zAV zFH hvl (zAX rfl (zAX rfl zAG)))|(apply zBE (cs:=Lc.cells ⟨x.text,t,[]⟩);exact zHE;exact zEz;exact PD_d rfl rfl (PD_d rfl rfl (PD_n rfl zBy));exact rfl)|exact zGE|(apply zGp (hb:=zDE) (hc:=hce1);exact rfl;((repeat (refine zAL rfl ?_));exact zAS);exact rfl;exact rfl;exact (by decide);exact rfl;exact rfl;exact rfl;exact rfl;exact rfl;exact rfl;exact rfl;exact rfl;exact rfl;exact rfl)|(refine zKT rfl rfl rfl rfl ?_ ?_)|apply zFP|exact zGj|(apply zHA;exact hk1;exact rfl;exact rfl;exact zA7)|(apply zJP (ys:=[Lc.av y]);exact rfl;exact zAk rfl;exact rfl;(with_reducible exact zCY);(with_reducible exact zBw);(with_reducible exact zHB);(with_reducible exact zFK);exact zDH N;exact zCA rfl;exact hcap)|(apply aJ (hd:=rfl);(first|exact zAk rfl|exact Co_bb rfl rfl rfl|exact Co_nn rfl);exact rfl;(with_reducible exact zA7);assumption;omega;exact fun _=>rfl)|(apply zA4 (hd:=rfl) (hro:=rfl);(with_reducible exact zEz))|apply ay (hd:=rfl)|exact zAE rfl|exact zAC rfl|(apply zAg;exact rfl;(with_reducible exact zAs))|(apply zAl;exact rfl;(with_reducible exact zDK))|exact zAb rfl|exact zAZ rfl|(apply zAR;exact rfl;(with_reducible first|exact fy_1|exact fy_3|exact fn_0|exact fn_1))|(apply zAU;exact rfl;(with_reducible first|exact zAn|exact zAe|exact zAv|exact zCf);exact rfl;exact rfl)|(apply zCn;exact rfl;(with_reducible exact zHC);exact rfl;exact rfl;exact rfl)|(apply zB8;(with_reducible exact zCY);(with_reducible exact zBw);(with_reducible exact zHl);exact rfl;exact rfl;(first|exact zAX rfl zAG|exact zCx rfl rfl rfl zAG|exact zDB rfl zAG);exact rfl)|(refine w0' ?_)|(apply zAx;exact rfl;exact rfl;exact rfl;(with_reducible exact zHC);exact rfl;exact rfl;exact rfl;exact rfl)|exact zAK rfl|exact zAQ rfl|apply zAI|apply zAP|apply zAM|refine zA6 (by kernel_rfl) (by kernel_rfl) ?_|apply en_r|apply eb_r
  exact zAq (zAO (zAA rfl zAa) (zAD rfl rfl (zAD rfl rfl (zAD rfl rfl zAN))) rfl rfl)
set_option maxHeartbeats 4000000 in
theorem zRS {L : List Nd} {E : List Sg} {q m : Nat} (hL : L.length ≤ 2000000) (ih : zGl L E q m) (n : Nat) (x : Nd) (ks : List Tr) (N : List Lc) (S S' : TS) (r : List Nd) (hk : x.kind = 7) (hm : (Tr.mk x ks).sz ≤ m + 1) (h : At L n (.mk x ks)) (hw : (Tr.mk x ks).werr false = 0) (hz : (Tr.mk x ks).sz ≤ 4500) (hA : Ask E N S (Tr.mk x ks).sz) (h0 : S.er = 0) (a b : Tr) (hks : ks = [a,b]) (hv : a.val = false) (hp : (Tr.mk x ks).expS q E N S = some (r,S')) :
    zA2 Tryz.prog 39 [.ptr 0 0,.d (i64 (n : Int)),.d (locs N)] (tyO L E S) (.d (zAc r)) (tyO L E S'):=by
  have hx:=h.here
  have hlen : n < L.length:=(List.getElem?_eq_some_iff.1 hx).1
  have hkid:=zCa L (n : Int) hL
  subst hks
  have hwk:=(zC0 hw).2
  have hwf:=h.wf
  rw [Tr.wf] at hwf
  have hwf2:=zCT.1 hwf.2
  have hsz : (Tr.mk x [a,b]).sz = a.sz + b.sz + 1:=by simp only [Tr.sz,szL,Nat.add_zero] <;> omega
  have hk0:=h.kids_get (i:=0) (by simp)
  have hat0:=h.kid (i:=0) (k:=a) rfl
  have hw0 : a.werr false = 0:=by simpa [hk] using zBY (j:=0) hwk (k:=a) rfl
  have hf0:=hwf2 a (by simp)
  have hk1:=h.kids_get (i:=1) (by simp)
  have hat1:=h.kid (i:=1) (k:=b) rfl
  have hw1 : b.werr false = 0:=by simpa [hk] using zBY (j:=1) hwk (k:=b) rfl
  have hf1:=hwf2 b (by simp)
  generalize kidAt n [a,b] 0 = p0 at *
  generalize kidAt n [a,b] 1 = p1 at *
  obtain ⟨t,S1,h1,h2⟩:=zS1 h0 hk hp
  have hpa:=zBR a
  have hpb:=zBR b
  obtain ⟨b01,b02⟩:=zBk hA.t a.sz a (Nat.le_refl _) hf0 hw0 (by omega) hA.ok h1
  rcases h2 with ⟨h3,_⟩ | ⟨_,h4⟩
  case inl=>rw [hv] at h3;cases h3
  have hlk : LcOk ⟨x.text,t,[]⟩:=⟨by show t.length ≤ _;omega,by simp⟩
  obtain ⟨b11,b12⟩:=zBk hA.t b.sz b (Nat.le_refl _) hf1 hw1 (by omega) (hA.ok.app hlk) h4
  have hA0:=hA.go (Up.refl S) hA.ok (k1:=a.sz) (by omega) (by omega)
  have hA9:=hA.go b01 hA.ok (k1:=1) (by omega) (by omega)
  have hA1:=hA.go b01 (hA.ok.app hlk) (k1:=b.sz) (by simp;omega) (by omega)
  have hce0:=ih p0 a N S S1 t (by omega) hat0 hw0 (by omega) hA0 h1
  have hce1:=ih p1 b (N ++ [⟨x.text,t,[]⟩]) S1 S' r (by omega) hat1 hw1 (by omega) hA1 h4
  rw [show locs (N ++ [⟨x.text,t,[]⟩]) = .slice (N.map Lc.av ++ [Lc.av ⟨x.text,t,[]⟩]) by simp [locs]] at hce1
  have hvl:=zHU L hL a.sz p0 a (Nat.le_refl _) hat0 hw0
  rw [hv] at hvl
  have hcap : ((N.map Lc.av).length + 1) * 64 ≤ 140737488355328 ∧ (N.map Lc.av).length + 1 ≤ 140737488355328:=by have:=hA.n;rw [List.length_map];omega
  clear hp h1 h4 hwk hwf2 hwf
  generalize zBV L (n : Int) = KK at *
  refine zA1 Tryz.func39 rfl Tryz.ntmps39 Tryz.results39 rfl rfl rfl ?_
  intro wb St0 X fx
  repeat' first | (refine zBs (id:=26) (s:=[(0,.ptr 0 0),(2,.d (tslN N)),(7,.ptr 3 0),(8,.d (zBj KK)),(14,.d (zAc t))]) (h:=anch fx 0 (tyO L E S) (tyO L E S1) ++ [ndB x]) (zAO (zAA rfl (zAA rfl (zAA rfl (zAA rfl (zAA rfl zAa))))) (zAD rfl rfl (zAD rfl rfl (zAD rfl rfl (zAD rfl rfl zAN)))) rfl rfl) ?_)|(refine zBs (id:=29) (s:=[(0,.ptr 0 0),(2,.d (tslN N)),(7,.ptr 3 0),(8,.d (zBj KK)),(15,.ptr 4 0)]) (h:=anch fx 0 (tyO L E S) (tyO L E S1) ++ [ndB x,.bx none none ((Lc.cells ⟨x.text,t,[]⟩).map .d)]) (zAO (zAA rfl (zAA rfl (zAA rfl (zAA rfl (zAA rfl zAa))))) (zAD rfl rfl (zAD rfl rfl (zAD rfl rfl (zAD rfl rfl (zAD rfl rfl zAN))))) rfl rfl) ?_)|exact zCd rfl|(refine zBs (id:=5) (s:=[(0,.ptr 0 0),(2,.d (tslN N)),(7,.ptr 3 0),(8,.d (zBj KK))]) (h:=anch fx 0 (tyO L E S) (tyO L E S) ++ [ndB x]) (zAO (zAA rfl (zAA rfl (zAA rfl (zAA rfl zAa)))) (zAD rfl rfl (zAD rfl rfl (zAD rfl rfl (zGk rfl zEK zAN)))) rfl rfl) ?_)|(refine zB0 (id:=4) [.y (.ptr 0 0),.y (.ptr 0 0),.y (.ptr 0 1),.y (.d (zAc L)),.y (.d (i64 (n : Int))),.y (.rptr x.av.flat),.y (.d (.agg (x.av.flat.take 4))),.y (.ptr 0 0),.y (.ptr 0 0),.y (.ptr 0 1),.y (.d (zAc L)),.y (.d (i64 (n : Int))),.y (.d (zBj KK)),.mk ⟨7,zsN,40,zsN.map cst⟩ none] (by kernel_rfl) (by kernel_rfl) (.inr (by kernel_rfl)) ⟨⟨rfl,zAZ rfl⟩,rfl,⟨rfl,zAo rfl⟩,rfl,⟨rfl,zAR rfl fy_1⟩,rfl,⟨rfl,zAU rfl zAn rfl rfl⟩,rfl,⟨rfl,zAE rfl⟩,rfl,⟨rfl,zE3 hx rfl rfl zAW⟩,rfl,⟨rfl,zAf rfl zAY rfl⟩,rfl,⟨rfl,zAZ rfl⟩,rfl,⟨rfl,zAo rfl⟩,rfl,⟨rfl,zAR rfl fy_1⟩,rfl,⟨rfl,zAU rfl zAn rfl rfl⟩,rfl,⟨rfl,zAE rfl⟩,rfl,⟨rfl,zAV zCV hkid (zAX rfl (zAX rfl zAG))⟩,rfl,⟨rfl,rfl,rfl,zAp,by kernel_rfl,rfl⟩,rfl,trivial⟩ ?_)|(apply zG6 (id:=29) (ids:=[0,1,2]) (ss:=[.ptr 0 0,.d (zBj KK),.rptr (ival (p1 : Int)).flat,.d (ival (p1 : Int)),.d (tslN N),.d (Lc.av ⟨x.text,t,[]⟩),.d (.slice [Lc.av ⟨x.text,t,[]⟩]),.d (.slice (N.map Lc.av ++ [Lc.av ⟨x.text,t,[]⟩])),.d (zAc r)]) (e:=8);kernel_rfl;kernel_rfl;exact rfl;exact .inr (by kernel_rfl);exact rfl)|apply en_n|apply zAH|apply zAB|apply zAF|apply w0|(apply zHR;exact zAk rfl;(with_reducible exact zBw);exact rfl;exact rfl;exact (by simp);exact zDH N)|(refine zC5 (by kernel_rfl) ?_;apply zAx;exact rfl;exact rfl;exact rfl;(with_reducible exact zAY);exact rfl;exact rfl;exact rfl;exact rfl)|(apply zBD;exact rfl;exact rfl;first|assumption|omega)|(apply zA9;exact rfl;exact rfl;first|assumption|omega)|(apply zBS;exact rfl;exact rfl;first|assumption|omega)|exact zAo rfl|(refine zA3 [0,1,2] zDE (hce0) ?_ rfl rfl (by decide) rfl rfl rfl rfl rfl rfl ?_;(repeat (refine zAL rfl ?_));exact zAS)|(refine zAV zFH hvl (zAX rfl (zAX rfl zAG)))|(apply zBE (cs:=Lc.cells ⟨x.text,t,[]⟩);exact zHE;exact zEz;exact PD_d rfl rfl (PD_d rfl rfl (PD_n rfl zBy));exact rfl)|exact zGE|(apply zGp (hb:=zDE) (hc:=hce1);exact rfl;((repeat (refine zAL rfl ?_));exact zAS);exact rfl;exact rfl;exact (by decide);exact rfl;exact rfl;exact rfl;exact rfl;exact rfl;exact rfl;exact rfl;exact rfl;exact rfl;exact rfl)|(refine zKT rfl rfl rfl rfl ?_ ?_)|apply zFP|exact zGj|(apply zHA;exact hk1;exact rfl;exact rfl;exact zA7)|(apply zJP (ys:=[Lc.av ⟨x.text,t,[]⟩]);exact rfl;exact zAk rfl;exact rfl;(with_reducible exact zCY);(with_reducible exact zBw);(with_reducible exact zHB);(with_reducible exact zFK);exact zDH N;exact zCA rfl;exact hcap)|(apply aJ (hd:=rfl);(first|exact zAk rfl|exact Co_bb rfl rfl rfl|exact Co_nn rfl);exact rfl;(with_reducible exact zA7);assumption;omega;exact fun _=>rfl)|(apply zA4 (hd:=rfl) (hro:=rfl);(with_reducible exact zEz))|apply ay (hd:=rfl)|exact zAE rfl|exact zAC rfl|(apply zAg;exact rfl;(with_reducible exact zAs))|(apply zAl;exact rfl;(with_reducible exact zDK))|exact zAb rfl|exact zAZ rfl|(apply zAR;exact rfl;(with_reducible first|exact fy_1|exact fy_3|exact fn_0|exact fn_1))|(apply zAU;exact rfl;(with_reducible first|exact zAn|exact zAe|exact zAv|exact zCf);exact rfl;exact rfl)|(apply zCn;exact rfl;(with_reducible exact zHC);exact rfl;exact rfl;exact rfl)|(apply zB8;(with_reducible exact zCY);(with_reducible exact zBw);(with_reducible exact zHl);exact rfl;exact rfl;(first|exact zAX rfl zAG|exact zCx rfl rfl rfl zAG|exact zDB rfl zAG);exact rfl)|(refine w0' ?_)|(apply zAx;exact rfl;exact rfl;exact rfl;(with_reducible exact zHC);exact rfl;exact rfl;exact rfl;exact rfl)|exact zAK rfl|exact zAQ rfl|apply zAI|apply zAP|apply zAM|refine zA6 (by kernel_rfl) (by kernel_rfl) ?_|apply en_r|apply eb_r
  exact zAq (zAO (zAA rfl zAa) (zAD rfl rfl (zAD rfl rfl (zAD rfl rfl zAN))) rfl rfl)
theorem zSy {L : List Nd} {E : List Sg} {q m : Nat} (hL : L.length ≤ 2000000) (ih : zGl L E q m) (n : Nat) (x : Nd) (ks : List Tr) (N : List Lc) (S S' : TS) (r : List Nd) (hk : x.kind = 7) (hm : (Tr.mk x ks).sz ≤ m + 1) (h : At L n (.mk x ks)) (hw : (Tr.mk x ks).werr false = 0) (hz : (Tr.mk x ks).sz ≤ 4500) (hA : Ask E N S (Tr.mk x ks).sz) (h0 : S.er = 0) (hp : (Tr.mk x ks).expS q E N S = some (r,S')) :
    zA2 Tryz.prog 39 [.ptr 0 0,.d (i64 (n : Int)),.d (locs N)] (tyO L E S) (.d (zAc r)) (tyO L E S'):=by
  obtain ⟨a,b,hks⟩:=zHF h.wf (by have:=(zC3 hw).2;rw [hk] at this;simpa [cntK] using this)
  cases hv : a.val with
  | true=>exact zRR hL ih n x ks N S S' r hk hm h hw hz hA h0 a b hks hv hp
  | false=>exact zRS hL ih n x ks N S S' r hk hm h hw hz hA h0 a b hks hv hp
end Go.Proofs.YtblomnkamngnbaaGreatDoor
namespace Go.Proofs.YtblomnkamngnbaaGreatDoor
open Go.Sx
attribute [local irreducible] zAT Program.underlying Ylds zBA alex zBc zBO awp zAj zBX RCall zA2 zBH zBQ zA8 zBT zBZ zBd zBr zBN zEE VCall segC
set_option maxHeartbeats 4000000 in
theorem zSx {L : List Nd} {E : List Sg} {q m : Nat} (hL : L.length ≤ 2000000) (ih : zGl L E q m) (n : Nat) (x : Nd) (ks : List Tr) (N : List Lc) (S S' : TS) (r : List Nd) (hk : x.kind = 8) (hm : (Tr.mk x ks).sz ≤ m + 1) (h : At L n (.mk x ks)) (hw : (Tr.mk x ks).werr false = 0) (hz : (Tr.mk x ks).sz ≤ 4500) (hA : Ask E N S (Tr.mk x ks).sz) (h0 : S.er = 0) (hp : (Tr.mk x ks).expS q E N S = some (r,S')) :
    zA2 Tryz.prog 39 [.ptr 0 0,.d (i64 (n : Int)),.d (locs N)] (tyO L E S) (.d (zAc r)) (tyO L E S'):=by
  have hx:=h.here
  have hlen : n < L.length:=(List.getElem?_eq_some_iff.1 hx).1
  have hkid:=zCa L (n : Int) hL
  obtain ⟨a,b,rfl⟩:=zHF h.wf (by have:=(zC3 hw).2;rw [hk] at this;simpa [cntK] using this)
  have hwk:=(zC0 hw).2
  have hwf:=h.wf
  rw [Tr.wf] at hwf
  have hwf2:=zCT.1 hwf.2
  have hsz : (Tr.mk x [a,b]).sz = a.sz + b.sz + 1:=by simp only [Tr.sz,szL,Nat.add_zero] <;> omega
  have hk0:=h.kids_get (i:=0) (by simp)
  have hat0:=h.kid (i:=0) (k:=a) rfl
  have hw0 : a.werr false = 0:=by simpa [hk] using zBY (j:=0) hwk (k:=a) rfl
  have hf0:=hwf2 a (by simp)
  have hk1:=h.kids_get (i:=1) (by simp)
  have hat1:=h.kid (i:=1) (k:=b) rfl
  have hw1 : b.werr false = 0:=by simpa [hk] using zBY (j:=1) hwk (k:=b) rfl
  have hf1:=hwf2 b (by simp)
  generalize kidAt n [a,b] 0 = p0 at *
  generalize kidAt n [a,b] 1 = p1 at *
  obtain ⟨t,S1,S2,y,S3,h1,h2,h3,h4⟩:=zT2 h0 hk hp
  have hpa:=zBR a
  have hpb:=zBR b
  have hlk : LcOk ⟨x.text,varN S.nx,[]⟩:=⟨by simp [varN],by simp⟩
  obtain ⟨b01,b02⟩:=zBk hA.t a.sz a (Nat.le_refl _) hf0 hw0 (by omega) (hA.ok.app hlk) h1
  obtain ⟨d1,hly⟩:=zJ8 (by simp [varN]) h3
  obtain ⟨b11,b12⟩:=zBk hA.t b.sz b (Nat.le_refl _) hf1 hw1 (by omega) (hA.ok.app hly) h4
  have hA0:=hA.go (zCM S) (hA.ok.app hlk) (k1:=a.sz) (by simp;omega) (by omega)
  have hA8:=hA.go ((zCM S).trans b01) hA.ok (k1:=1) (by omega) (by omega)
  have hA9:=hA.go (((zCM S).trans b01).trans (zB9 h2)) hA.ok (k1:=1) (by omega) (by omega)
  have hA1:=hA.go ((((zCM S).trans b01).trans (zB9 h2)).trans d1) (hA.ok.app hly) (k1:=b.sz) (by simp;omega) (by omega)
  have hnx:=zFA L E S (by have:=hA.nx;omega)
  have hsm:=zC6 L E S1 S2 q (varN S.nx) t (by simp [varN]) (by omega) hA8.st h2
  have hay:=zSC L E S2 S3 q x.text (varN S.nx) N y (by simp [varN]) (by have:=hA.n;omega) (fun l hl=>⟨(hA.ok l hl).1,by have:=(hA.ok l hl).2;omega⟩) hA9.st h3
  have hce0:=ih p0 a (N ++ [⟨x.text,varN S.nx,[]⟩]) (zCk S) S1 t (by omega) hat0 hw0 (by omega) hA0 h1
  rw [show locs (N ++ [⟨x.text,varN S.nx,[]⟩]) = .slice (N.map Lc.av ++ [Lc.av ⟨x.text,varN S.nx,[]⟩]) by simp [locs]] at hce0
  have hce1:=ih p1 b (N ++ [y]) S3 S' r (by omega) hat1 hw1 (by omega) hA1 h4
  rw [show locs (N ++ [y]) = .slice (N.map Lc.av ++ [Lc.av y]) by simp [locs]] at hce1
  have hcap : ((N.map Lc.av).length + 1) * 64 ≤ 140737488355328 ∧ (N.map Lc.av).length + 1 ≤ 140737488355328:=by have:=hA.n;rw [List.length_map];omega
  clear hp h1 h2 h3 h4 hwk hwf2 hwf
  generalize zBV L (n : Int) = KK at *
  refine zA1 Tryz.func39 rfl Tryz.ntmps39 Tryz.results39 rfl rfl rfl ?_
  intro wb St0 X fx
  repeat' first | (refine zBs (id:=32) (s:=[(0,.ptr 0 0),(2,.d (tslN N)),(7,.ptr 3 0),(8,.d (zBj KK)),(16,.d (zAc (varN S.nx)))]) (h:=anch fx 0 (tyO L E S) (tyO L E (zCk S)) ++ [ndB x]) (zAO (zAA rfl (zAA rfl (zAA rfl (zAA rfl (zAA rfl zAa))))) (zAD rfl rfl (zAD rfl rfl (zAD rfl rfl (zAD rfl rfl zAN)))) rfl rfl) ?_)|(refine zBs (id:=33) (s:=[(0,.ptr 0 0),(2,.d (tslN N)),(7,.ptr 3 0),(8,.d (zBj KK)),(16,.d (zAc (varN S.nx)))]) (h:=anch fx 0 (tyO L E S) (tyO L E S2) ++ [ndB x]) (zAO (zAA rfl (zAA rfl (zAA rfl (zAA rfl (zAA rfl zAa))))) (zAD rfl rfl (zAD rfl rfl (zAD rfl rfl (zAD rfl rfl zAN)))) rfl rfl) ?_)|exact zCd rfl|(refine zBs (id:=5) (s:=[(0,.ptr 0 0),(2,.d (tslN N)),(7,.ptr 3 0),(8,.d (zBj KK))]) (h:=anch fx 0 (tyO L E S) (tyO L E S) ++ [ndB x]) (zAO (zAA rfl (zAA rfl (zAA rfl (zAA rfl zAa)))) (zAD rfl rfl (zAD rfl rfl (zAD rfl rfl (zGk rfl zEK zAN)))) rfl rfl) ?_)|(refine zB0 (id:=4) [.y (.ptr 0 0),.y (.ptr 0 0),.y (.ptr 0 1),.y (.d (zAc L)),.y (.d (i64 (n : Int))),.y (.rptr x.av.flat),.y (.d (.agg (x.av.flat.take 4))),.y (.ptr 0 0),.y (.ptr 0 0),.y (.ptr 0 1),.y (.d (zAc L)),.y (.d (i64 (n : Int))),.y (.d (zBj KK)),.mk ⟨7,zsN,40,zsN.map cst⟩ none] (by kernel_rfl) (by kernel_rfl) (.inr (by kernel_rfl)) ⟨⟨rfl,zAZ rfl⟩,rfl,⟨rfl,zAo rfl⟩,rfl,⟨rfl,zAR rfl fy_1⟩,rfl,⟨rfl,zAU rfl zAn rfl rfl⟩,rfl,⟨rfl,zAE rfl⟩,rfl,⟨rfl,zE3 hx rfl rfl zAW⟩,rfl,⟨rfl,zAf rfl zAY rfl⟩,rfl,⟨rfl,zAZ rfl⟩,rfl,⟨rfl,zAo rfl⟩,rfl,⟨rfl,zAR rfl fy_1⟩,rfl,⟨rfl,zAU rfl zAn rfl rfl⟩,rfl,⟨rfl,zAE rfl⟩,rfl,⟨rfl,zAV zCV hkid (zAX rfl (zAX rfl zAG))⟩,rfl,⟨rfl,rfl,rfl,zAp,by kernel_rfl,rfl⟩,rfl,trivial⟩ ?_)|(apply zG5 (id:=32) (ids:=[0,1,2]) (ss:=[.ptr 0 0,.d (zAc (varN S.nx)),.ptr 0 0,.d (zBj KK),.rptr (ival (p0 : Int)).flat,.d (ival (p0 : Int)),.d (tslN N),.ptr 3 (0 + 1),.d (str x.text),.d (zAc (varN S.nx)),.d (Lc.av ⟨x.text,varN S.nx,[]⟩),.d (.slice [Lc.av ⟨x.text,varN S.nx,[]⟩]),.d (.slice (N.map Lc.av ++ [Lc.av ⟨x.text,varN S.nx,[]⟩])),.d (zAc t),.top]) (e:=13) (f:=14);kernel_rfl;kernel_rfl;exact rfl;exact .inl rfl;exact rfl;exact rfl;exact rfl;kernel_rfl)|(apply zG5 (id:=33) (ids:=[0,1,2]) (ss:=[.ptr 0 0,.d (zBj KK),.rptr (ival (p1 : Int)).flat,.d (ival (p1 : Int)),.d (tslN N),.ptr 0 0,.ptr 3 (0 + 1),.d (str x.text),.d (zAc (varN S.nx)),.d (locs N),.d (Lc.av y),.d (.slice [Lc.av y]),.d (.slice (N.map Lc.av ++ [Lc.av y])),.d (zAc r)]) (e:=10) (f:=13);kernel_rfl;kernel_rfl;exact rfl;exact .inr (by kernel_rfl);exact rfl;exact rfl;exact rfl;kernel_rfl)|apply en_n|apply zAH|apply zAB|apply zAF|apply w0|(apply zHR;exact zAk rfl;(with_reducible exact zBw);exact rfl;exact rfl;exact (by simp);exact zDH N)|(refine zC5 (by kernel_rfl) ?_;apply zAx;exact rfl;exact rfl;exact rfl;(with_reducible exact zAY);exact rfl;exact rfl;exact rfl;exact rfl)|(apply zBD;exact rfl;exact rfl;first|assumption|omega)|(apply zA9;exact rfl;exact rfl;first|assumption|omega)|(apply zBS;exact rfl;exact rfl;first|assumption|omega)|exact zAo rfl|(refine zA3 [0,1,2] zD2 (hnx) ?_ rfl rfl (by decide) rfl rfl rfl rfl rfl rfl ?_;(repeat (refine zAL rfl ?_));exact zAS)|exact zGE|(apply zGp (hb:=zDE) (hc:=hce0);exact rfl;((repeat (refine zAL rfl ?_));exact zAS);exact rfl;exact rfl;exact (by decide);exact rfl;exact rfl;exact rfl;exact rfl;exact rfl;exact rfl;exact rfl;exact rfl;exact rfl;exact rfl)|(apply zLn (hb:=zCN) (hc:=hsm);exact rfl;((repeat (refine zAL rfl ?_));exact zAS);exact rfl;exact rfl;exact (by decide);exact rfl;exact rfl;exact rfl;exact rfl;exact rfl;exact rfl;exact rfl;exact rfl;exact rfl;exact rfl)|(apply zGp (hb:=zR3) (hc:=hay);exact rfl;((repeat (refine zAL rfl ?_));exact zAS);exact rfl;exact rfl;exact (by decide);exact rfl;exact rfl;exact rfl;exact rfl;exact rfl;exact rfl;exact rfl;exact rfl;exact rfl;exact rfl)|(apply zLn (hb:=zDE) (hc:=hce1);exact rfl;((repeat (refine zAL rfl ?_));exact zAS);exact rfl;exact rfl;exact (by decide);exact rfl;exact rfl;exact rfl;exact rfl;exact rfl;exact rfl;exact rfl;exact rfl;exact rfl;exact rfl)|(refine zKT rfl rfl rfl rfl ?_ ?_)|apply zFP|exact zGj|(apply zHA;exact hk0;exact rfl;exact rfl;exact zA7)|(apply zHA;exact hk1;exact rfl;exact rfl;exact zA7)|(apply zJP (ys:=[Lc.av ⟨x.text,varN S.nx,[]⟩]);exact rfl;exact zAk rfl;exact rfl;(with_reducible exact zCY);(with_reducible exact zBw);(with_reducible exact zHB);(with_reducible exact zFK);exact zDH N;exact zCA rfl;exact hcap)|(apply zJP (ys:=[Lc.av y]);exact rfl;exact zAk rfl;exact rfl;(with_reducible exact zCY);(with_reducible exact zBw);(with_reducible exact zHB);(with_reducible exact zFK);exact zDH N;exact zCA rfl;exact hcap)|(apply zBE (cs:=Lc.cells ⟨x.text,varN S.nx,[]⟩);exact zHE;exact zEz;exact PD_d rfl rfl (PD_d rfl rfl (PD_n rfl zBy));exact rfl)|apply ay (hd:=rfl)|exact zAE rfl|exact zAC rfl|(apply zAg;exact rfl;(with_reducible exact zAs))|(apply zAl;exact rfl;(with_reducible exact zDK))|exact zAb rfl|exact zAZ rfl|(apply zAR;exact rfl;(with_reducible first|exact fy_3|exact fn_0|exact fn_1))|(apply zAU;exact rfl;(with_reducible first|exact zAe|exact zAv|exact zCf);exact rfl;exact rfl)|(apply zB8;(with_reducible exact zCY);(with_reducible exact zBw);(with_reducible exact zHl);exact rfl;exact rfl;(first|exact zAX rfl zAG|exact zCx rfl rfl rfl zAG|exact zDB rfl zAG);exact rfl)|(refine w0' ?_)|exact zAK rfl|exact zAQ rfl|apply zAI|apply zAP|apply zAM|apply en_r|apply eb_r
  exact zAq (zAO (zAA rfl zAa) (zAD rfl rfl (zAD rfl rfl (zAD rfl rfl zAN))) rfl rfl)
end Go.Proofs.YtblomnkamngnbaaGreatDoor
namespace Go.Proofs.YtblomnkamngnbaaGreatDoor
open Go.Sx
theorem zTY : ∀ (m : Nat) (t : Tr),t.sz ≤ m → t.pv ≤ t.sz
  | 0,t,h=>by have:=zBR t;omega
  | m + 1,.mk x ks,h=>by
    rw [Tr.sz] at h
    have hl : ∀ ks : List Tr,szL ks ≤ m → pvL ks ≤ szL ks:=by
      intro ks
      induction ks with
      | nil=>intro _;simp [pvL]
      | cons k ks ihk =>
        intro h
        rw [szL] at h
        rw [pvL,szL]
        have:=zTY m k (by omega)
        have:=ihk (by omega)
        omega
    have:=hl ks (by omega)
    rw [Tr.pv,Tr.sz]
    split
    · omega
    · split <;> omega
structure MatAt (E : List Sg) (q : Nat) (of' to' : List Nd) (ks : List Tr) (N : List Lc) (S' : TS) (i : Nat) (S : TS) : Prop where
  le : i ≤ ks.length
  odd : i % 2 = 1
  run : expM q E of' to' (ks.drop i) N S = some S'
  ask : Ask E N S (szL (ks.drop i))
theorem MatAt.one {E : List Sg} {q : Nat} {of' to' : List Nd} {x : Nd} {ks : List Tr} {N : List Lc} {S' : TS} {i : Nat} {S : TS} (hk : x.kind = 10) (ho : ks.length % 2 = 1) (hwf : ∀ k ∈ ks,k.wf) (hs : szL ks ≤ 4500) (h : MatAt E q of' to' ks N S' i S) (hi : i < ks.length) (hw : zDX (decide (x.kind = 10)) false ks 0 = 0) :
    ∃ p k t N1 S1 S2 u S3 S4,ks[i]? = some p ∧ ks[i + 1]? = some k ∧ p.werr true = 0 ∧ k.werr false = 0 ∧ Ask E N S p.sz ∧ p.patS q E N S = some (t,N1,S1) ∧ t.length ≤ 10000 ∧ StoB S1.st ∧ zDP q S1 t of' = some S2 ∧ Ask E N1 S2 k.sz ∧ k.expS q E N1 S2 = some (u,S3) ∧ u.length ≤ 10000 ∧ StoB S3.st ∧ zDP q S3 u to' = some S4 ∧ MatAt E q of' to' ks N S' (i + 2) S4 ∧ (p.pv = 0 → N1 = N):=by
  have hod:=h.odd
  have hi1 : i + 1 < ks.length:=by omega
  have hp : ks[i]? = some ks[i]:=List.getElem?_eq_getElem hi
  have hkk : ks[i + 1]? = some ks[i + 1]:=List.getElem?_eq_getElem hi1
  have hwp:=hwf _ (List.getElem_mem hi)
  have hwk:=hwf _ (List.getElem_mem hi1)
  have hrun:=h.run
  have hA:=h.ask
  rw [List.drop_eq_getElem_cons hi,List.drop_eq_getElem_cons hi1] at hrun
  rw [zDV hp,zDV hkk] at hA
  have hsp:=zCi (List.mem_of_getElem? hp)
  have hsk:=zCi (List.mem_of_getElem? hkk)
  have v1:=zBY (j:=i) hw hp
  have v2:=zBY (j:=i + 1) hw hkk
  have e1 : (false || (decide (x.kind = 10) && decide ((0 + i) % 2 = 1))) = true:=by simp [hk];omega
  have e2 : (false || (decide (x.kind = 10) && decide ((0 + (i + 1)) % 2 = 1))) = false:=by simp [hk];omega
  rw [e1] at v1
  rw [e2] at v2
  generalize ks[i] = p at *
  generalize ks[i + 1] = k at *
  have e3 : i + 2 = i + 1 + 1:=rfl
  obtain ⟨t,N1,S1,S2,u,S3,S4,g1,g2,g3,g4,g5⟩:=zT0 hrun
  obtain ⟨a1,a2,a3,M,a4,a5⟩:=zJi hA.t p.sz p (Nat.le_refl _) v1 hA.ok g1
  have hpv:=zTY p.sz p (Nat.le_refl _)
  have hpp:=zBR p
  have hpk:=zBR k
  obtain ⟨b1,b2⟩:=zBk hA.t k.sz k (Nat.le_refl _) hwk v2 (by omega) a3 g3
  have c1:=a1.trans (zB9 g2)
  have c2:=c1.trans b1
  have c3:=c2.trans (zB9 g4)
  have hN1 : N1.length = N.length + p.pv:=by rw [a4,List.length_append,a5]
  have hn:=hA.n
  have hx:=hA.nx
  refine ⟨p,k,t,N1,S1,S2,u,S3,S4,hp,hkk,v1,v2,⟨hA.e,hA.t,by omega,hA.ok,hA.st,by omega⟩,g1,a2,a1.st hA.st,g2,⟨hA.e,hA.t,by omega,a3,c1.st hA.st,by have:=c1.lo;have:=c1.hi;omega⟩,g3,by omega,c2.st hA.st,g4,⟨by omega,by omega,g5,⟨hA.e,hA.t,by rw [e3];omega,hA.ok,c3.st hA.st,by rw [e3];have:=c3.lo;have:=c3.hi;omega⟩⟩,fun h0=>by rw [a4,List.eq_nil_of_length_eq_zero (a5.trans h0),List.append_nil]⟩
attribute [local irreducible] zAT Program.underlying Ylds zBA alex zBc zBO awp zAj zBX RCall zA2 zBH zBQ zA8 zBT zBZ zBd zBr zBN zEE VCall segC
set_option maxHeartbeats 4000000 in
theorem zPh {L : List Nd} {E : List Sg} {q m : Nat} (hL : L.length ≤ 2000000) (ih : zGl L E q m) (n : Nat) (x : Nd) (ks : List Tr) (N : List Lc) (S S' : TS) (r : List Nd) (hk : x.kind = 10) (hm : (Tr.mk x ks).sz ≤ m + 1) (h : At L n (.mk x ks)) (hw : (Tr.mk x ks).werr false = 0) (hz : (Tr.mk x ks).sz ≤ 4500) (hA : Ask E N S (Tr.mk x ks).sz) (h0 : S.er = 0) (hp : (Tr.mk x ks).expS q E N S = some (r,S')) :
    zA2 Tryz.prog 39 [.ptr 0 0,.d (i64 (n : Int)),.d (locs N)] (tyO L E S) (.d (zAc r)) (tyO L E S'):=by
  have hx:=h.here
  have hlen : n < L.length:=(List.getElem?_eq_some_iff.1 hx).1
  have hkid:=zCa L (n : Int) hL
  have hwk:=(zC0 hw).2
  have hwf:=h.wf
  rw [Tr.wf] at hwf
  have hwf2:=zCT.1 hwf.2
  have hcn : 3 ≤ x.kids ∧ x.kids % 2 = 1:=by have:=(zC3 hw).2;rw [hk] at this;simpa [cntK] using this
  have hod : ks.length % 2 = 1:=by have:=hwf.1;omega
  have hsz : (Tr.mk x ks).sz = szL ks + 1:=by rw [Tr.sz]
  obtain ⟨a,ha⟩ : ∃ a,ks[0]? = some a:=⟨_,List.getElem?_eq_getElem (by have:=hwf.1;omega)⟩
  obtain ⟨ks',rfl⟩ : ∃ r,ks = a :: r:=by
    cases ks with
    | nil=>simp at ha
    | cons b r=>simp at ha;subst ha;exact ⟨r,rfl⟩
  obtain ⟨t,S1,h1,h2,rfl⟩:=zSA h0 hk hp
  have hpa:=zBR a
  have hat0:=h.kid ha
  have hw0 : a.werr false = 0:=by simpa [hk] using zBY (j:=0) hwk ha
  have hf0:=hwf2 a (by simp)
  have hs2 : szL (a :: ks') = a.sz + szL ks':=by rw [szL]
  obtain ⟨b01,b02⟩:=zBk hA.t a.sz a (Nat.le_refl _) hf0 hw0 (by omega) hA.ok h1
  have hA0:=hA.go (Up.refl S) hA.ok (k1:=a.sz) (by omega) (by omega)
  have hA9:=hA.go b01 hA.ok (k1:=1) (by omega) (by omega)
  have hnx:=zFA L E S1 (by have:=hA9.nx;omega)
  have hce0:=ih (kidAt n (a :: ks') 0) a N S S1 t (by omega) hat0 hw0 (by omega) hA0 h1
  have hk0:=h.kids_get (i:=0) (by simp)
  have hkl:=h.kids_len
  have hkg : ∀ i,i < (a :: ks').length → (zBV L (n : Int))[i]? = some ((kidAt n (a :: ks') i : Nat) : Int):=fun i hi=>h.kids_get hi
  have hkat : ∀ i k,(a :: ks')[i]? = some k → At L (kidAt n (a :: ks') i) k:=fun i k hik=>h.kid hik
  have hM0 : MatAt E q t (varN S1.nx) (a :: ks') N S' 1 (zCk S1):=⟨by simp,rfl,h2,hA.go (b01.trans (zCM S1)) hA.ok (by show N.length + szL ks' ≤ _;omega) (by show _ + 5000 * szL ks' ≤ _;omega)⟩
  have hl24 : (a :: ks').length ≤ szL (a :: ks'):=zDx _
  have hLl:=h.len
  have hpat:=zRz (L:=L) (E:=E) (q:=q) hL m
  have hnl : (varN S1.nx).length = 1:=rfl
  generalize (a :: ks') = ks at *
  clear hp h1 h2 hwf
  generalize zBV L (n : Int) = KK at *
  refine zA1 Tryz.func39 rfl Tryz.ntmps39 Tryz.results39 rfl rfl rfl ?_
  intro wb St0 X fx
  repeat' first | (refine zBs (id:=47) (s:=[(0,.ptr 0 0),(2,.d (tslN N)),(7,.ptr 3 0),(8,.d (zBj KK)),(19,.d (zAc t))]) (h:=anch fx 0 (tyO L E S) (tyO L E S1) ++ [ndB x]) (zAO (zAA rfl (zAA rfl (zAA rfl (zAA rfl (zAA rfl zAa))))) (zAD rfl rfl (zAD rfl rfl (zAD rfl rfl (zAD rfl rfl zAN)))) rfl rfl) ?_)|(refine zBs (id:=5) (s:=[(0,.ptr 0 0),(2,.d (tslN N)),(7,.ptr 3 0),(8,.d (zBj KK))]) (h:=anch fx 0 (tyO L E S) (tyO L E S) ++ [ndB x]) (zAO (zAA rfl (zAA rfl (zAA rfl (zAA rfl zAa)))) (zAD rfl rfl (zAD rfl rfl (zAD rfl rfl (zGk rfl zEK zAN)))) rfl rfl) ?_)|(refine zB0 (id:=4) [.y (.ptr 0 0),.y (.ptr 0 0),.y (.ptr 0 1),.y (.d (zAc L)),.y (.d (i64 (n : Int))),.y (.rptr x.av.flat),.y (.d (.agg (x.av.flat.take 4))),.y (.ptr 0 0),.y (.ptr 0 0),.y (.ptr 0 1),.y (.d (zAc L)),.y (.d (i64 (n : Int))),.y (.d (zBj KK)),.mk ⟨7,zsN,40,zsN.map cst⟩ none] (by kernel_rfl) (by kernel_rfl) (.inr (by kernel_rfl)) ⟨⟨rfl,zAZ rfl⟩,rfl,⟨rfl,zAo rfl⟩,rfl,⟨rfl,zAR rfl fy_1⟩,rfl,⟨rfl,zAU rfl zAn rfl rfl⟩,rfl,⟨rfl,zAE rfl⟩,rfl,⟨rfl,zE3 hx rfl rfl zAW⟩,rfl,⟨rfl,zAf rfl zAY rfl⟩,rfl,⟨rfl,zAZ rfl⟩,rfl,⟨rfl,zAo rfl⟩,rfl,⟨rfl,zAR rfl fy_1⟩,rfl,⟨rfl,zAU rfl zAn rfl rfl⟩,rfl,⟨rfl,zAE rfl⟩,rfl,⟨rfl,zAV zCV hkid (zAX rfl (zAX rfl zAG))⟩,rfl,⟨rfl,rfl,rfl,zAp,by kernel_rfl,rfl⟩,rfl,trivial⟩ ?_)|apply en_n|apply zAH|apply zAB|apply zAF|apply w0|(apply zCd (dst:=some 248);exact rfl)|(apply zHR;exact zAk rfl;(with_reducible exact zBw);exact rfl;exact rfl;exact (by simp);exact zDH N)|(refine zC5 (by kernel_rfl) ?_;apply zAx;exact rfl;exact rfl;exact rfl;(with_reducible exact zAY);exact rfl;exact rfl;exact rfl;exact rfl)|(apply zA9;exact rfl;exact rfl;first|assumption|omega)|(apply zBS;exact rfl;exact rfl;first|assumption|omega)|exact zAo rfl|(refine zA3 [0,1,2] zDE (hce0) ?_ rfl rfl (by decide) rfl rfl rfl rfl rfl rfl ?_;(repeat (refine zAL rfl ?_));exact zAS)|(refine zA3 [0,1,2] zD2 (hnx) ?_ rfl rfl (by decide) rfl rfl rfl rfl rfl rfl ?_;(repeat (refine zAL rfl ?_));exact zAS)|(apply aJ (hd:=rfl);(first|exact zAk rfl|exact Co_bb rfl rfl rfl|exact Co_nn rfl);exact rfl;(with_reducible exact zA7);assumption;omega;exact fun _=>rfl)|apply ay (hd:=rfl)|exact zAE rfl|exact zAC rfl|(apply zAg;exact rfl;(with_reducible exact zAs))|(apply zAl;exact rfl;(with_reducible exact zDK))|exact zAb rfl|exact zAZ rfl|(apply zAR;exact rfl;(with_reducible first|exact fy_3|exact fn_0))|(apply zAU;exact rfl;(with_reducible first|exact zAe|exact zCf);exact rfl;exact rfl)|(refine w0' ?_)|exact zAQ rfl|apply zAI|apply zAP|apply eb_n
  refine zAr (α:=Nat × TS) (fun p=>MatAt E q t (varN S1.nx) ks N S' p.1 p.2) (fun p=>[(0,.ptr 0 0),(2,.d (tslN N)),(8,.d (zBj KK)),(19,.d (zAc t)),(20,.d (zAc (varN S1.nx))),(21,.d (i64 (p.1 : Int)))]) (fun p=>anch fx 0 (tyO L E S) (tyO L E p.2) ++ [ndB x]) (fun p=>ks.length - p.1) (1,zCk S1) hM0
    (zAO (zAA rfl (zAA rfl (zAA rfl (zAA rfl (zAA rfl (zAA rfl zAa)))))) (zAD rfl rfl (zAD rfl rfl (zAD rfl rfl (zAD rfl rfl zAN)))) rfl rfl) ?_
  rintro ⟨i,Si⟩ hMi
  dsimp only at hMi ⊢
  rcases Nat.lt_or_ge i ks.length with hlt | hge
  · obtain ⟨p,k,w,N1,S2,S3,u,S4,S5,g1,g2,g3,g4,g5,g6,g7,g8,g9,g10,g11,g12,g13,g14,g15,g16⟩:=hMi.one hk hod hwf2 (by omega) hlt hwk
    have hi1 : i + 1 < ks.length:=(List.getElem?_eq_some_iff.1 g2).1
    have hki:=hkg i hlt
    have hki1 : KK[((i : Int) + 1).toNat]? = some ((kidAt n ks (i + 1) : Nat) : Int):=by
      rw [show ((i : Int) + 1).toNat = i + 1 by omega];exact hkg (i + 1) hi1
    have hlli : (i : Int) < (KK.length : Int):=by omega
    have hps : p.sz ≤ m:=by have:=zCi (List.mem_of_getElem? g1);omega
    have hks : k.sz ≤ m:=by have:=zCi (List.mem_of_getElem? g2);omega
    have hcs:=zC6 L E S2 S3 q w t (by omega) (by omega) g8 g9
    have hce:=ih (kidAt n ks (i + 1)) k N1 S3 S4 u hks (hkat _ k g2) g4 (by have:=zCi (List.mem_of_getElem? g2);omega) g10 g11
    have hcs2:=zC6 L E S4 S5 q u (varN S1.nx) (by omega) (by omega) g13 g14
    have hb1 : -9223372036854775808 ≤ (i : Int) + 1 ∧ (i : Int) + 1 ≤ 9223372036854775807:=by omega
    have hb2 : -9223372036854775808 ≤ (i : Int) + 2 ∧ (i : Int) + 2 ≤ 9223372036854775807:=by omega
    by_cases hpv : p.pv = 0
    · have hN1:=g16 hpv
      subst hN1
      have hcp:=hpat.a (kidAt n ks i) p N1 N1 Si S2 w hps (hkat i p g1) g3 g5 g6 hpv
      clear hMi hkg hkat g6 g9 g11 g14 hA
      skip
      repeat' first | (refine zBs (id:=52) (s:=[(0,.ptr 0 0),(2,.d (tslN N1)),(8,.d (zBj KK)),(19,.d (zAc t)),(20,.d (zAc (varN S1.nx))),(21,.d (i64 (i : Int))),(22,.d (zAc w)),(23,.d (tslN N1))]) (h:=anch fx 0 (tyO L E S) (tyO L E S2) ++ [ndB x]) (zAO (zAA rfl (zAA rfl (zAA rfl (zAA rfl (zAA rfl (zAA rfl (zAA rfl (zAA rfl zAa)))))))) (zAD rfl rfl (zAD rfl rfl (zAD rfl rfl (zAD rfl rfl zAN)))) rfl rfl) ?_)|apply en_n|apply zAH|apply zAB|apply zAF|apply w0|(apply zCd (dst:=some 279);exact rfl)|(apply zA5;exact rfl;exact rfl;first|assumption|omega)|exact zCJ rfl|exact zFo rfl|exact zFn rfl|(refine zA3 [0,1,2] zFx (hcp) ?_ rfl rfl (by decide) rfl rfl rfl rfl rfl rfl ?_;(repeat (refine zAL rfl ?_));exact zAS)|(refine zA3 [0,1,2] zCN (hcs) ?_ rfl rfl (by decide) rfl rfl rfl rfl rfl rfl ?_;(repeat (refine zAL rfl ?_));exact zAS)|(refine zA3 [0,1,2] zDE (hce) ?_ rfl rfl (by decide) rfl rfl rfl rfl rfl rfl ?_;(repeat (refine zAL rfl ?_));exact zAS)|(refine zA3 [0,1,2] zCN (hcs2) ?_ rfl rfl (by decide) rfl rfl rfl rfl rfl rfl ?_;(repeat (refine zAL rfl ?_));exact zAS)|(apply aJ (hd:=rfl);(first|exact zAk rfl|exact Co_bb rfl rfl rfl|exact Co_nn rfl);exact rfl;(with_reducible exact zA7);assumption;omega;exact fun _=>rfl)|apply ay (hd:=rfl)|exact zAE rfl|exact zAC rfl|(apply zAg;exact rfl;(with_reducible exact zAs))|(apply zAl;exact rfl;(with_reducible exact zBt))|exact zBC rfl rfl|exact zAZ rfl|exact zAK rfl|apply zAI|apply zAP|apply eb_n
      all_goals first | omega | assumption | skip
      all_goals exact ⟨(i + 2,S5),g15,by show ks.length - (i + 2) < _;omega,zAO (zAA rfl (zAA rfl (zAA rfl (zAA rfl (zAA rfl (Le_d rfl (by simp) zAa)))))) (zAD rfl rfl (zAD rfl rfl (zAD rfl rfl (zAD rfl rfl zAN)))) rfl rfl⟩
    · have hcp:=hpat.b (kidAt n ks i) p N N1 Si S2 w hps (hkat i p g1) g3 g5 g6 hpv
      clear hMi hkg hkat g6 g9 g11 g14 hA
      skip
      repeat' first | (refine zBs (id:=52) (s:=[(0,.ptr 0 0),(2,.d (tslN N)),(8,.d (zBj KK)),(19,.d (zAc t)),(20,.d (zAc (varN S1.nx))),(21,.d (i64 (i : Int))),(22,.d (zAc w)),(23,.buf 4 (lnN N1))]) (h:=anch fx 0 (tyO L E S) (tyO L E S2) ++ [ndB x,bufN N1]) (zAO (zAA rfl (zAA rfl (zAA rfl (zAA rfl (zAA rfl (zAA rfl (zAA rfl (zAA rfl zAa)))))))) (zAD rfl rfl (zAD rfl rfl (zAD rfl rfl (zAD rfl rfl (zAD rfl rfl zAN))))) rfl rfl) ?_)|(refine zN7 (id:=51) false 91 3 rfl ?_)|apply en_n|apply zAH|apply zAB|apply zAF|apply w0|(apply zQE (dst:=some 279);exact rfl;exact rfl;exact rfl)|(apply zA5;exact rfl;exact rfl;first|assumption|omega)|exact zCJ rfl|exact zFo rfl|exact zFn rfl|(refine zA3 [0,1,2,4] zFx (hcp) ?_ rfl rfl (by decide) rfl rfl rfl rfl rfl rfl ?_;(repeat (refine zAL rfl ?_));exact zAS)|(refine zA3 [0,1,2] zCN (hcs) ?_ rfl rfl (by decide) rfl rfl rfl rfl rfl rfl ?_;(repeat (refine zAL rfl ?_));exact zAS)|(refine zA3 [0,1,2] zDE (hce) ?_ rfl rfl (by decide) rfl rfl rfl rfl rfl rfl ?_;(repeat (refine zAL rfl ?_));exact zAS)|(refine zA3 [0,1,2] zCN (hcs2) ?_ rfl rfl (by decide) rfl rfl rfl rfl rfl rfl ?_;(repeat (refine zAL rfl ?_));exact zAS)|(apply aJ (hd:=rfl);(first|exact zAk rfl|exact Co_bb rfl rfl rfl|exact Co_nn rfl);exact rfl;(with_reducible exact zA7);assumption;omega;exact fun _=>rfl)|apply ay (hd:=rfl)|exact zAE rfl|exact zAC rfl|(apply zAg;exact rfl;(with_reducible exact zAs))|(apply zAl;exact rfl;(with_reducible exact zBt))|exact zBC rfl rfl|exact zAm rfl|exact zAZ rfl|exact zAK rfl|apply zAI|apply zAP|apply eb_n
      all_goals first | omega | assumption | skip
      all_goals exact ⟨(i + 2,S5),g15,by show ks.length - (i + 2) < _;omega,zAO (zAA rfl (zAA rfl (zAA rfl (zAA rfl (zAA rfl (Le_d rfl (by simp) zAa)))))) (zAD rfl rfl (zAD rfl rfl (zAD rfl rfl (zAD rfl rfl zAN)))) rfl rfl⟩
  · have hrun:=hMi.run
    rw [List.drop_of_length_le hge,expM.eq_1] at hrun
    injection hrun with hrun;subst hrun
    have hlli : ¬ (i : Int) < (KK.length : Int):=by omega
    skip
    repeat' first | apply en_n|apply zAH|apply zAB|apply zAF|apply w0|(apply zBn;exact rfl;exact rfl;first|assumption|omega)|apply ay (hd:=rfl)|exact zAE rfl|exact zAC rfl|(apply zAl;exact rfl;(with_reducible exact zBt))|exact zAQ rfl|apply zAM|apply zAt|apply en_e|apply eb_e
    exact zAq (zAO (zAA rfl zAa) (zAD rfl rfl (zAD rfl rfl (zAD rfl rfl zAN))) rfl rfl)
end Go.Proofs.YtblomnkamngnbaaGreatDoor
namespace Go.Proofs.YtblomnkamngnbaaGreatDoor
open Go.Sx
theorem zR7 {L : List Nd} {E : List Sg} {q : Nat} (hL : L.length ≤ 2000000) : ∀ m,zGl L E q m
  | 0=>fun n t N S S' r hm=>by have:=zBR t;omega
  | m + 1=>fun n t N S S' r hm h hw hz hA hp=>by
    have ih:=zR7 (E:=E) (q:=q) hL m
    by_cases h0 : S.er = 0
    case neg=>exact zTz n t N S S' r h0 hp
    obtain ⟨x,ks⟩:=t
    obtain ⟨hkk,_⟩:=zC3 hw
    have hc : x.kind = 1 ∨ x.kind = 2 ∨ (x.kind = 3 ∨ x.kind = 4) ∨ x.kind = 5 ∨ x.kind = 6 ∨ x.kind = 7 ∨ x.kind = 8 ∨ x.kind = 9 ∨ x.kind = 10 ∨ x.kind = 11 ∨ x.kind = 12:=by omega
    rcases hc with hk | hk | hk | hk | hk | hk | hk | hk | hk | hk | hk
    · exact zSz hL ih n x ks N S S' r hk hm h hw hz hA h0 hp
    · exact zSv hL ih n x ks N S S' r hk hm h hw hz hA h0 hp
    · exact zSu hL ih n x ks N S S' r hk hm h hw hz hA h0 hp
    · exact zTy hL ih n x ks N S S' r hk hm h hw hz hA h0 hp
    · exact zS0 hL ih n x ks N S S' r hk hm h hw hz hA h0 hp
    · exact zSy hL ih n x ks N S S' r hk hm h hw hz hA h0 hp
    · exact zSx hL ih n x ks N S S' r hk hm h hw hz hA h0 hp
    · exact zTx hL ih n x ks N S S' r hk hm h hw hz hA h0 hp
    · exact zPh hL ih n x ks N S S' r hk hm h hw hz hA h0 hp
    · exact zPg hL ih n x ks N S S' r hk hm h hw hz hA h0 hp
    · exact zSw hL ih n x ks N S S' r hk hm h hw hz hA h0 hp
end Go.Proofs.YtblomnkamngnbaaGreatDoor
namespace Go.Proofs.YtblomnkamngnbaaGreatDoor
open Go.Sx
theorem zOn {St : Stab} {w : World} : RepD St w (.slice none 0 0) (.slice []) :=
  .slice none 0 0 0 [] [] rfl (Nat.le_refl _) (Nat.zero_le _) (fun x hx=>by cases hx) rfl (fun u hu=>by cases hu) (fun h=>absurd h (by simp)) (fun j u d hu=>by simp at hu)
theorem zNo {P : Program} {f : FuncId} {a b : SV} {pre post : List Ob} {r : SV} (h : zA2 P f [a,b,.d (.slice [])] pre r post) : zA2 P f [a,b,.nil] pre r post:=by
  intro g w vs hi hr
  refine h g w vs hi ?_
  match vs,hr with
  | [u,v,x],⟨h1,h2,h3,h4⟩ =>
    have h3 : x = .slice none 0 0:=h3
    subst h3
    exact ⟨h1,h2,zOn,h4⟩
attribute [local irreducible] zAT Program.underlying Ylds zBA alex zBc zBO awp zAj zBX RCall zA2 zBH zBQ zA8 zBT zBZ zBd zBr zBN VCall
theorem zPE (L : List Nd) (hL : L.length ≤ 1000000) (hw : zB7 L = false) : zAj Tryz.prog 12 [zAc L] (bl false):=by
  have hc:=zKV L hL hw
  refine zAd Tryz.func12 rfl Tryz.ntmps12 Tryz.results12 rfl ?_
  intro wb St0
  repeat' first | apply en_n|apply zAH|apply zAB|apply zAF|apply w0|(apply k1u (hd:=rfl);exact rfl;exact rfl)|(apply zA9;exact rfl;exact rfl;first|assumption|omega)|(refine zAV zCm hc (zAX rfl zAG))|apply ay (hd:=rfl)|exact zAE rfl|exact zAC rfl|exact zAh rfl rfl|apply zAM|apply zAJ|exact res1 rfl
  all_goals rfl
def zMT (t : Tr) : Bool:=decide (chkT t false = 0) && t.val
theorem zPp {t : Tr} (h : chkT t false = 0) : t.sz ≤ 4000 ∧ zDo t.fl ≤ 100 ∧ t.werr false = 0 ∧ t.tw = false:=by
  unfold chkT at h
  split at h
  · cases h
  · rename_i h1
    split at h
    · rename_i h2;exact absurd h h2
    · rename_i h2
      split at h
      · cases h
      · rename_i h3;exact ⟨by omega,by omega,by omega,by simpa using h3⟩
theorem zID (t : Tr) (hw : t.wf) (hL : t.fl.length ≤ 1000000) : zAj Tryz.prog 12 [zAc t.fl] (bl (zMT t)):=by
  have hc:=zET t hw hL
  unfold zMT
  refine zAd Tryz.func12 rfl Tryz.ntmps12 Tryz.results12 rfl ?_
  intro wb St0
  by_cases h0 : chkT t false = 0
  · have hv:=zHU t.fl (by omega) t.sz 0 t (Nat.le_refl _) (.top hw) (zPp h0).2.2.1
    rw [h0] at hc
    rw [decide_eq_true h0,Bool.true_and]
    generalize t.val = v at *
    clear h0
    skip
    repeat' first | apply en_n|apply zAH|apply zAB|apply zAF|apply w0|(apply zBD;exact rfl;exact rfl;first|assumption|omega)|(refine zAV zCm hc (zAX rfl zAG))|(refine zAV zFH hv (zAX rfl (zAX rfl zAG)))|apply ay (hd:=rfl)|exact zAE rfl|exact zAC rfl|exact zAi rfl rfl|exact w1 rfl rfl|apply zAM|apply zAJ|exact res1 rfl
    all_goals rfl
  · rw [decide_eq_false h0,Bool.false_and]
    generalize chkT t false = e at *
    skip
    repeat' first | apply en_n|apply zAH|apply zAB|apply zAF|apply w0|(apply k1u (hd:=rfl);exact rfl;exact rfl)|(apply zA9;exact rfl;exact rfl;first|assumption|omega)|(refine zAV zCm hc (zAX rfl zAG))|apply ay (hd:=rfl)|exact zAE rfl|exact zAC rfl|exact zAh rfl rfl|apply zAM|apply zAJ|exact res1 rfl
    all_goals rfl
theorem zRo (E : List Sg) (L : List Nd) (hL : L.length ≤ 1000000) (hw : zB7 L = false) : zAj Tryz.prog 15 [sigs E,zAc L] (.tup [.slice [],i64 60]):=by
  have hc:=zKV L hL hw
  refine zAd Tryz.func15 rfl Tryz.ntmps15 Tryz.results15 rfl ?_
  intro wb St0
  repeat' first | apply en_n|apply zAH|apply zAB|apply zAF|apply w0|(apply zB4;exact rfl;exact rfl;first|assumption|omega)|(refine zAV zCm hc (zAX rfl zAG))|apply ay (hd:=rfl)|exact zAE rfl|exact zAC rfl|exact zAb rfl|exact zAK rfl|apply zAM|apply en_r|apply zAJ|exact zLq rfl rfl
  all_goals rfl
theorem zQN (E : List Sg) (t : Tr) (hw : t.wf) (hL : t.fl.length ≤ 1000000) (h : chkT t false ≠ 0) : zAj Tryz.prog 15 [sigs E,zAc t.fl] (.tup [.slice [],i64 (chkT t false)]):=by
  have hc:=zET t hw hL
  refine zAd Tryz.func15 rfl Tryz.ntmps15 Tryz.results15 rfl ?_
  intro wb St0
  generalize chkT t false = e at *
  repeat' first | apply en_n|apply zAH|apply zAB|apply zAF|apply w0|(apply zB4;exact rfl;exact rfl;first|assumption|omega)|(refine zAV zCm hc (zAX rfl zAG))|apply ay (hd:=rfl)|exact zAE rfl|exact zAC rfl|exact zAb rfl|exact zAK rfl|apply zAM|apply en_r|apply zAJ|exact zLq rfl rfl
  all_goals rfl
theorem zQM (E : List Sg) (t : Tr) (hw : t.wf) (hL : t.fl.length ≤ 1000000) (hE : E.length ≤ 1000000) (hT : ∀ s ∈ E,s.ty.length ≤ 1000000) (h : chkT t false = 0) (he : envF E = false) : zAj Tryz.prog 15 [sigs E,zAc t.fl] (.tup [.slice [],i64 110]):=by
  have hc:=zET t hw hL
  rw [h] at hc
  have hk:=zFE E hE hT
  rw [he,if_neg (by decide)] at hk
  refine zAd Tryz.func15 rfl Tryz.ntmps15 Tryz.results15 rfl ?_
  intro wb St0
  clear he h
  repeat' first | apply en_n|apply zAH|apply zAB|apply zAF|apply w0|(apply zB4;exact rfl;exact rfl;first|assumption|omega)|(apply zBS;exact rfl;exact rfl;first|assumption|omega)|(refine zAV zCm hc (zAX rfl zAG))|(refine zAV zD3 hk (zAX rfl zAG))|apply ay (hd:=rfl)|exact zAE rfl|exact zAC rfl|exact zAb rfl|exact zAK rfl|exact zAQ rfl|apply zAP|apply zAM|apply en_r|apply zAJ|exact zLq rfl rfl
  all_goals rfl
theorem zK8 (t : Tr) : (zFz t).length ≤ t.sz:=by
  unfold zFz
  split
  · have:=zEt t [] [];simpa using this
  · simp
theorem zOH (E : List Sg) (t : Tr) (hw : t.wf) (hL : t.fl.length ≤ 1000000) (hE : E.length ≤ 1000000) (hT : ∀ s ∈ E,s.ty.length ≤ 1000000) (h : chkT t false = 0) (he : envF E = true) (hn : nmdF E t.fl (zFz t) = false) : zAj Tryz.prog 15 [sigs E,zAc t.fl] (.tup [.slice [],i64 111]):=by
  have hc:=zET t hw hL
  rw [h] at hc
  have hk:=zFE E hE hT
  rw [he,if_pos rfl] at hk
  have hfl:=zK8 t
  have hm:=zKq E t.fl (zFz t) hE hT hL (by rw [Tr.fl_len] at hL;omega) (zQR t hw hL)
  rw [hn] at hm
  refine zAd Tryz.func15 rfl Tryz.ntmps15 Tryz.results15 rfl ?_
  intro wb St0
  clear he h hn hfl
  repeat' first | apply en_n|apply zAH|apply zAB|apply zAF|apply w0|(apply zBS;exact rfl;exact rfl;first|assumption|omega)|(refine zAV zCm hc (zAX rfl zAG))|(refine zAV zD3 hk (zAX rfl zAG))|(refine zAV zJv hm (zAX rfl (zAX rfl zAG)))|apply ay (hd:=rfl)|exact zAE rfl|exact zAC rfl|exact zBo rfl|exact zAb rfl|exact zAK rfl|exact zAQ rfl|apply zAP|apply zAM|apply en_r|apply zAJ|exact zLq rfl rfl
  all_goals rfl
abbrev TS0 : TS:=⟨0,[],0⟩
set_option maxHeartbeats 4000000 in
theorem zQL (E : List Sg) (t : Tr) (q : Nat) (u r : List Nd) (S1 S2 : TS) (hw : t.wf) (hz : t.sz ≤ 4000) (hE : E.length ≤ 1000000) (hT : ∀ s ∈ E,s.ty.length ≤ 10000) (h : chkT t false = 0) (he : envF E = true) (hn : nmdF E t.fl (zFz t) = true)
    (h1 : t.expS q E [] TS0 = some (u,S1)) (h2 : zEY q S1 u = some (r,S2)) (hr : S2.er = 0 → okT r = true) : zAj Tryz.prog 15 [sigs E,zAc t.fl] (if S2.er = 0 then .tup [zAc (zIX r),i64 0] else .tup [.slice [],i64 S2.er]):=by
  have hL : t.fl.length ≤ 1000000:=by rw [Tr.fl_len];omega
  have hc:=zET t hw hL
  have hw0:=(zPp h).2.2.1
  rw [h] at hc
  have hk:=zFE E hE (fun s hs=>by have:=hT s hs;omega)
  rw [he,if_pos rfl] at hk
  have hfl:=zK8 t
  have hm:=zKq E t.fl (zFz t) hE (fun s hs=>by have:=hT s hs;omega) hL (by omega) (zQR t hw hL)
  rw [hn] at hm
  have hA : Ask E [] TS0 t.sz:=⟨hE,hT,by simp;omega,fun l hl=>(by cases hl),fun p hp=>(by cases hp),by show (0 : Int) ≤ 0 ∧ (0 : Int) + 5000 * (t.sz : Int) ≤ 2000000000000;omega⟩
  have hx:=zR7 (E:=E) (q:=q) (L:=t.fl) (by omega) t.sz 0 t [] TS0 S1 u (Nat.le_refl _) (.top hw) hw0 (by omega) hA h1
  obtain ⟨b1,b2⟩:=zBk hT t.sz t (Nat.le_refl _) hw hw0 (by omega) (fun l hl=>(by cases hl)) h1
  have hx:=zNo hx
  have hkn:=zJm t.fl E S1 S2 q u r (by omega) (b1.st fun p hp=>by cases hp) h2
  have hrl:=zFZ h2 (by omega)
  have hcn:=zRq r (by omega)
  clear he h hn hfl hw0 hA b1 b2 h1 h2 hr
  by_cases h0 : S2.er = 0
  · rw [if_pos h0]
    refine zAd Tryz.func15 rfl Tryz.ntmps15 Tryz.results15 rfl ?_
    intro wb St0
    repeat' first | (refine zBs (id:=10) (s:=[(0,.d (sigs E)),(1,.d (zAc t.fl)),(4,.nil),(5,.d (i64 0)),(8,.ptr 2 0)]) (h:=[.map none (mSto []),.bx none none [.d (i64 0),.mp 0],.bx none none [.ptr 1 0,.d (zAc t.fl),.d (sigs E),.d (i64 0)]]) (zAO (zAA rfl (zAA rfl (zAA rfl (zAA rfl (zAA rfl zAa))))) (zAD rfl rfl (zAD rfl rfl (zGk rfl zEK zAN))) rfl rfl) ?_)|(apply zGf;(with_reducible exact zMk);(with_reducible exact zML);exact zEP rfl (zEP rfl (zEP rfl zNQ));exact rfl;exact rfl;exact rfl;exact rfl)|apply en_n|apply zAH|apply zAB|apply zAF|apply w0|(apply zBS;exact rfl;exact rfl;first|assumption|omega)|(refine zAV zCm hc (zAX rfl zAG))|(refine zAV zD3 hk (zAX rfl zAG))|(refine zAV zJv hm (zAX rfl (zAX rfl zAG)))|(refine zSF [] zIM (zIf 0) ?_ rfl rfl (by decide) rfl rfl rfl rfl rfl rfl ?_;(repeat (refine zAL rfl ?_));exact zAS)|exact zAo rfl|(refine zA3 [2,1,0] zDE (hx) ?_ rfl rfl (by decide) rfl rfl rfl rfl rfl rfl ?_;(repeat (refine zAL rfl ?_));exact zAS)|(refine zA3 [2,1,0] zHa (hkn) ?_ rfl rfl (by decide) rfl rfl rfl rfl rfl rfl ?_;(repeat (refine zAL rfl ?_));exact zAS)|(refine zAV zRM hcn (zAX rfl zAG))|apply ay (hd:=rfl)|exact zAE rfl|exact zAC rfl|exact zBo rfl|exact zAb rfl|exact zAZ rfl|exact zEJ rfl|(apply zAR;exact rfl;(with_reducible exact fy_3))|(apply zAU;exact rfl;(with_reducible exact zCf);exact rfl;exact rfl)|exact zAQ rfl|apply zAP|apply zAM|apply zAJ|exact res2 rfl rfl
    all_goals rfl
  · rw [if_neg h0]
    refine zAd Tryz.func15 rfl Tryz.ntmps15 Tryz.results15 rfl ?_
    intro wb St0
    repeat' first | (refine zBs (id:=10) (s:=[(0,.d (sigs E)),(1,.d (zAc t.fl)),(4,.nil),(5,.d (i64 0)),(8,.ptr 2 0)]) (h:=[.map none (mSto []),.bx none none [.d (i64 0),.mp 0],.bx none none [.ptr 1 0,.d (zAc t.fl),.d (sigs E),.d (i64 0)]]) (zAO (zAA rfl (zAA rfl (zAA rfl (zAA rfl (zAA rfl zAa))))) (zAD rfl rfl (zAD rfl rfl (zGk rfl zEK zAN))) rfl rfl) ?_)|(apply zGf;(with_reducible exact zMk);(with_reducible exact zML);exact zEP rfl (zEP rfl (zEP rfl zNQ));exact rfl;exact rfl;exact rfl;exact rfl)|apply en_n|apply zAH|apply zAB|apply zAF|apply w0|(apply zB4;exact rfl;exact rfl;first|assumption|omega)|(apply zBS;exact rfl;exact rfl;first|assumption|omega)|(refine zAV zCm hc (zAX rfl zAG))|(refine zAV zD3 hk (zAX rfl zAG))|(refine zAV zJv hm (zAX rfl (zAX rfl zAG)))|(refine zSF [] zIM (zIf 0) ?_ rfl rfl (by decide) rfl rfl rfl rfl rfl rfl ?_;(repeat (refine zAL rfl ?_));exact zAS)|exact zAo rfl|(refine zA3 [2,1,0] zDE (hx) ?_ rfl rfl (by decide) rfl rfl rfl rfl rfl rfl ?_;(repeat (refine zAL rfl ?_));exact zAS)|(refine zA3 [2,1,0] zHa (hkn) ?_ rfl rfl (by decide) rfl rfl rfl rfl rfl rfl ?_;(repeat (refine zAL rfl ?_));exact zAS)|apply ay (hd:=rfl)|exact zAE rfl|exact zAC rfl|exact zBo rfl|exact zAb rfl|exact zAZ rfl|exact zEJ rfl|(apply zAR;exact rfl;(with_reducible exact fy_3))|(apply zAU;exact rfl;(with_reducible exact zCf);exact rfl;exact rfl)|exact zAK rfl|exact zAQ rfl|apply zAP|apply zAM|refine zA6 (by kernel_rfl) (by kernel_rfl) ?_|apply en_r|apply zAJ|exact zLq rfl rfl
    all_goals rfl
end Go.Proofs.YtblomnkamngnbaaGreatDoor
namespace Go.Proofs.YtblomnkamngnbaaGreatDoor
def sub (σ : Int → List Nd) (L : List Nd) : List Nd:=L.flatMap (sub1 σ)
end Go.Proofs.YtblomnkamngnbaaGreatDoor
namespace Go.Proofs.YtblomnkamngnbaaGreatDoor
def free (V : List Int) (L : Sto) : Nat:=(V.filter fun k=>(zBv L k).isNone).length
structure Inv (V : List Int) (L : Sto) (ρ : Int → List Nd) : Prop where
  gd : ∀ k t,zBv L k = some t → Gd V t
  eq : ∀ k t,zBv L k = some t → ρ k = sub ρ t
  dn : ∀ k t,zBv L k = some t → (∃ j,t = [vN j] ∧ j < k) ∨ ∃ h r,t = h :: r ∧ h.kind ≠ 31
  fr : ∀ k,zBv L k = none → ρ k = [vN k]
  ky : ∀ p ∈ L,p.1 ∈ V ∧ Rng p.1
  nd : (L.map Prod.fst).Nodup
  cnt : L.length + free V L ≤ V.length
section
variable {V : List Int} {L : Sto} {ρ : Int → List Nd}
def upd (x : Int) (u : List Nd) (k : Int) : List Nd:=if k = x then u else [vN k]
end
end Go.Proofs.YtblomnkamngnbaaGreatDoor
namespace Go.Proofs.YtblomnkamngnbaaGreatDoor
section
variable {V : List Int} {L : Sto} {ρ : Int → List Nd}
end
end Go.Proofs.YtblomnkamngnbaaGreatDoor
namespace Go.Proofs.YtblomnkamngnbaaGreatDoor
section
variable {V : List Int} {L : Sto} {ρ : Int → List Nd}
end
end Go.Proofs.YtblomnkamngnbaaGreatDoor
namespace Go.Proofs.YtblomnkamngnbaaGreatDoor
def ren (f : Int → Int) (n : Nd) : Nd:=if n.kind = 31 then { n with num:=f n.num } else n
end Go.Proofs.YtblomnkamngnbaaGreatDoor
namespace Go.Proofs.YtblomnkamngnbaaGreatDoor
section
variable {k : Int} {A B : Sto}
end
end Go.Proofs.YtblomnkamngnbaaGreatDoor
namespace Go.Proofs.YtblomnkamngnbaaGreatDoor
end Go.Proofs.YtblomnkamngnbaaGreatDoor
namespace Go.Proofs.YtblomnkamngnbaaGreatDoor
end Go.Proofs.YtblomnkamngnbaaGreatDoor
namespace Go.Proofs.YtblomnkamngnbaaGreatDoor
end Go.Proofs.YtblomnkamngnbaaGreatDoor
namespace Go.Proofs.YtblomnkamngnbaaGreatDoor
end Go.Proofs.YtblomnkamngnbaaGreatDoor
namespace Go.Proofs.YtblomnkamngnbaaGreatDoor
open Go.Sx
attribute [local irreducible] zAT Program.underlying Ylds zBA alex zBc zBO awp zAj zBX RCall zA2 zBH zBQ zA8 zBT zBZ zBd zBr
theorem zSf {s : List UInt8} (h : s ≠ []) : (0 : Int) < (s.length : Int):=by
  cases s with
  | nil=>exact absurd rfl h
  | cons=>simp
theorem zMV {p : UInt8 → Prop} (h : ∀ n : Fin 256,p (UInt8.ofNat n.1)) (c : UInt8) : p c:=by
  have:=h ⟨c.toNat,c.toNat_lt⟩
  simpa using this
theorem zUn : ∀ c,isK c = 1 ↔ zEM c = true:=zMV (by decide +kernel)
theorem zUm : ∀ c,isK c = 2 ↔ zEN c = true:=zMV (by decide +kernel)
theorem zUt : ∀ c,btw 1 4 c = zEp c:=zMV (by decide +kernel)
theorem zUs : ∀ c,btw 5 5 c = zDg c:=zMV (by decide +kernel)
theorem zMa (p : UInt8 → Bool) (s : List UInt8) : zIg p s = s.length ↔ s.all p = true:=by
  induction s with
  | nil=>simp [zIg]
  | cons c s ih =>
    rw [zIg,List.all_cons]
    cases p c with
    | false=>simp
    | true=>simp [ih]
theorem zSR (s : List UInt8) : ((0 + zIg (btw 1 4) (s.drop 0) : Nat) : Int) = (s.length : Int) ↔ s.all zEp = true:=by
  rw [← zMa,show btw 1 4 = zEp from funext zUt,List.drop_zero,Nat.zero_add];omega
theorem zSQ (s : List UInt8) : ((0 + zIg (btw 5 5) (s.drop 0) : Nat) : Int) = (s.length : Int) ↔ s.all zDg = true:=by
  rw [← zMa,show btw 5 5 = zDg from funext zUs,List.drop_zero,Nat.zero_add];omega
set_option maxHeartbeats 4000000 in
theorem zGr (t : Tk) (hs : t.text.length ≤ 9223372036854775807) : zAj Tryz.prog 42 [t.av] (bl (zDY t)):=by
  refine zAd Tryz.func42 rfl Tryz.ntmps42 Tryz.results42 rfl ?_
  intro wb St0
  repeat' first | apply en_n|apply zAH|apply zAB|apply zAF|apply w0|(apply k1u (hd:=rfl);exact rfl;exact rfl)|(apply zDU;exact rfl;with_reducible exact ustr)|exact zGi rfl rfl|exact zGg rfl rfl|(apply zAV (hb:=zSk) (hc:=zSb t.text))|(apply zAV (hb:=zM5) (hc:=zMf t.num))|(apply zAV (hb:=zTp) (hc:=zTk (t.text.getD 0 0)))|(refine zAV zM2 (zKJ t.text 0 1 4 hs (Nat.zero_le _)) (zAX rfl (zAX rfl (zAX rfl (zAX rfl zAG)))))|(refine zAV zM2 (zKJ t.text 0 5 5 hs (Nat.zero_le _)) (zAX rfl (zAX rfl (zAX rfl (zAX rfl zAG)))))|(apply zKD (i:=0);exact rfl;exact rfl;with_reducible exact ustr;exact ⟨by omega,zSf (by assumption)⟩)|(apply aBox (hd:=rfl) (hro:=rfl);exact rfl;exact rfl)|apply ay (hd:=rfl)|exact zAE rfl|exact zAC rfl|exact zCQ rfl rfl|exact zG9 rfl rfl|exact zCz rfl rfl|exact zBo rfl|exact zAi rfl rfl|exact zAh rfl rfl|(apply zAR;exact rfl;(with_reducible first|exact fo_0|exact fo_1|exact fo_2|exact fo_3))|(apply zAU;exact rfl;(with_reducible first|exact zKM|exact zRt|exact zOW|exact zRu);exact rfl;exact rfl)|exact w1 rfl rfl|(apply k1 (hd:=rfl);exact rfl;exact rfl)|(apply gD;exact rfl;exact rfl;(intro hb);rotate_left;(intro hb);rotate_right)|(apply zAz;exact rfl;(intro hb);rotate_left;(intro hb);rotate_right)|apply zAI|apply zAP|apply zAM|refine zA6 (by kernel_rfl) (by kernel_rfl) ?_|apply en_r|apply eb_n|apply eb_r|apply zAJ|exact res1 rfl|exact zAG|refine zAX rfl ?_
  all_goals refine zC4 ?_
  all_goals try simp only [zSR,zSQ] at *
  all_goals try (have hp : (t.pos < 0) = False:=eq_false (by assumption);simp only [zDY,hp,if_false])
  all_goals try simp_all [zDY,zKj,allF,zUn,zUm]
  all_goals first | omega | (obtain ⟨x,hx,hn⟩:=hb;intro h;rw [h x hx] at hn;cases hn)
theorem zEU (t : Tk) (hs : t.text.length ≤ 1000000) : zAj Tryz.prog 42 [t.av] (bl (zDY t)):=zGr t (by omega)
end Go.Proofs.YtblomnkamngnbaaGreatDoor
namespace Go.Proofs.YtblomnkamngnbaaGreatDoor
inductive IR (E : List Sg) : List Nd → List Nd → Int → Prop
  | no (L : List Nd) : zB7 L = false → IR E L [] 60
  | chk (t : Tr) : t.wf → chkT t false ≠ 0 → IR E t.fl [] (chkT t false)
  | env (t : Tr) : t.wf → chkT t false = 0 → envF E = false → IR E t.fl [] 110
  | name (t : Tr) : t.wf → chkT t false = 0 → envF E = true → nmdF E t.fl (zFz t) = false → IR E t.fl [] 111
  | run (t : Tr) (q : Nat) (u r : List Nd) (S1 S2 : TS) : t.wf → chkT t false = 0 → envF E = true → nmdF E t.fl (zFz t) = true → t.expS q E [] TS0 = some (u,S1) → zEY q S1 u = some (r,S2) → (S2.er = 0 → okT r = true) →
      IR E t.fl (if S2.er = 0 then zIX r else []) S2.er
open Go.Sx in
theorem IR.call {E : List Sg} {L r : List Nd} {e : Int} (h : IR E L r e) (hL : L.length ≤ 4000) (hE : E.length ≤ 1000) (hT : ∀ s ∈ E,s.ty.length ≤ 10000) : zAj Tryz.prog 15 [sigs E,zAc L] (.tup [zAc r,i64 e]):=by
  cases h with
  | no _ hw=>exact zRo E L (by omega) hw
  | chk t hw hc=>exact zQN E t hw (by omega) hc
  | env t hw hc he=>exact zQM E t hw (by omega) (by omega) (fun s hs=>by have:=hT s hs;omega) hc he
  | name t hw hc he hn=>exact zOH E t hw (by omega) (by omega) (fun s hs=>by have:=hT s hs;omega) hc he hn
  | run t q u r S1 S2 hw hc he hn h1 h2 hr =>
    have:=zQL E t q u r S1 S2 hw (by rw [Tr.fl_len] at hL;omega) (by omega) hT hc he hn h1 h2 hr
    by_cases h0 : S2.er = 0
    · rw [if_pos h0] at this ⊢;rw [h0];exact this
    · rw [if_neg h0] at this ⊢;exact this
end Go.Proofs.YtblomnkamngnbaaGreatDoor
namespace Go.Proofs.YtblomnkamngnbaaGreatDoor
end Go.Proofs.YtblomnkamngnbaaGreatDoor
namespace Go.Proofs
end Go.Proofs
namespace Go.Proofs.YtblomnkamngnbaaGreatDoor
open Go.Sx Go.Shelf Go.RowKit Go.Lib Go.Sort
instance : Inhabited Bc:=⟨⟨0,.int .i64 0,rfl⟩⟩
end Go.Proofs.YtblomnkamngnbaaGreatDoor
namespace Go.Proofs.YtblomnkamngnbaaGreatDoor
open Go.Sx
attribute [local irreducible] zAT Program.underlying Ylds zBA alex zBc zBO awp zAj zBX RCall zA2 zBH zBQ zA8 zBT zBZ zBd zBr zBN
end Go.Proofs.YtblomnkamngnbaaGreatDoor
namespace Go.Proofs.YtblomnkamngnbaaGreatDoor
open Go.Sx
attribute [local irreducible] zAT Program.underlying Ylds zBA alex zBc zBO awp zAj zBX RCall zA2 zBH zBQ zA8 zBT zBZ zBd zBr zBN
theorem zQi (n : Nd) : zAj Tryz.prog 76 [n.av] (bl false):=by
  refine zAd Tryz.func76 rfl Tryz.ntmps76 Tryz.results76 rfl ?_
  intro wb St0
  repeat' first | apply en_n|apply zAH|apply zAB|apply zAF|apply w0|(apply aBox (hd:=rfl) (hro:=rfl);exact rfl;exact rfl)|apply ay (hd:=rfl)|exact zAC rfl|apply zAM|apply zAJ|exact res1 rfl
  all_goals rfl
theorem zQh (n : Nd) : zAj Tryz.prog 77 [n.av] (bl (decide (n.kids > 0))):=by
  refine zAd Tryz.func77 rfl Tryz.ntmps77 Tryz.results77 rfl ?_
  intro wb St0
  repeat' first | apply en_n|apply zAH|apply zAB|apply zAF|apply w0|(apply aBox (hd:=rfl) (hro:=rfl);exact rfl;exact rfl)|apply ay (hd:=rfl)|exact zAC rfl|exact zEk rfl rfl|(apply zAR;exact rfl;(with_reducible exact fn_3))|(apply zAU;exact rfl;(with_reducible exact zAs);exact rfl;exact rfl)|apply zAM|apply zAJ|exact res1 rfl
  all_goals rfl
theorem zQj (n : Nd) : zAj Tryz.prog 75 [n.av] (bl (decide (n.text = [45,62]))):=by
  refine zAd Tryz.func75 rfl Tryz.ntmps75 Tryz.results75 rfl ?_
  intro wb St0
  repeat' first | apply en_n|apply zAH|apply zAB|apply zAF|apply w0|exact zGi rfl rfl|(apply aBox (hd:=rfl) (hro:=rfl);exact rfl;exact rfl)|apply ay (hd:=rfl)|exact zAC rfl|(apply zAR;exact rfl;(with_reducible exact fn_1))|(apply zAU;exact rfl;(with_reducible exact zAv);exact rfl;exact rfl)|apply zAM|apply zAJ|exact res1 rfl
  all_goals rfl
def argF (f : Nat → Option (List UInt8 × Nat)) (L : List Nd) (p : Nd → Bool) (i : Nat) : Option (List UInt8 × Nat):=match L[i]?,f i with
  | some y,some (s,j)=>some (if p y then 40 :: s ++ [41] else s,j)
  | _,_=>none
def zHM : Nat → List Nd → Nat → Option (List UInt8 × Nat)
  | 0,_,_=>none
  | n + 1,L,i=>match L[i]? with
    | none=>none
    | some x =>
      if x.kind = 31 then some (39 :: Lib.itoa x.num,i + 1)
      else if x.text = [45,62] then (match argF (zHM n L) L (fun y=>decide (y.text = [45,62])) (i + 1) with
        | some (u,j)=>(match argF (zHM n L) L (fun _=>false) j with
          | some (v,k)=>some (u ++ [32,45,62,32] ++ v,k)
          | none=>none)
        | none=>none)
      else zCB (fun (p : List UInt8 × Nat) (_ : Nat)=>match argF (zHM n L) L (fun y=>decide (y.kids > 0)) p.2 with
        | some (u,j)=>some (p.1 ++ 32 :: u,j)
        | none=>none) (x.text,i + 1) (List.range x.kids.toNat)
end Go.Proofs.YtblomnkamngnbaaGreatDoor
namespace Go.Proofs.YtblomnkamngnbaaGreatDoor
open Go.Sx
attribute [local irreducible] zAT Program.underlying Ylds zBA alex zBc zBO awp zAj zBX RCall zA2 zBH zBQ zA8 zBT zBZ zBd zBr zBN
abbrev shO (L : List Nd) (i : Int) : List Ob:=[.bx none none [.d (zAc L)],.bx none none [.d (i64 i)]]
set_option maxHeartbeats 2000000 in
theorem zJY (f : FuncId) (p : Nd → Bool) (hbf : zAT Tryz.prog f = true) (hp : ∀ n,zAj Tryz.prog f [n.av] (bl (p n))) (L : List Nd) (i j : Nat) (y : Nd) (s : List UInt8) (hy : L[i]? = some y) (hs : s.length ≤ 100000000) (_hj : j ≤ 2000000) (hi : i ≤ 2000000)
    (hc : zAj Tryz.prog 41 [zAc L,i64 (i : Int)] (.tup [str s,i64 (j : Int)])) :
    zA2 Tryz.prog 74 [.clo f [],.ptr 0 0,.ptr 1 0] (shO L i) (.d (str (if p y then 40 :: s ++ [41] else s))) (shO L j):=by
  refine zA1 Tryz.func74 rfl Tryz.ntmps74 Tryz.results74 rfl rfl rfl ?_
  intro wb St0 X fx
  cases hpy : p y with
  | true =>
    have hpc:=hp y;rw [hpy] at hpc
    repeat' first | apply en_n|apply zAH|apply zAB|apply zAF|apply w0|exact zBF rfl|(apply zAV (hb:=zL0) (hc:=hc))|(apply zLa (hb:=hbf) (hc:=hpc);exact rfl)|(apply zKE;exact rfl;exact rfl;simp only [List.length_append,List.length_cons,List.length_nil];omega)|(apply aJ (hd:=rfl);(first|exact zAk rfl|exact Co_bb rfl rfl rfl|exact Co_nn rfl);exact rfl;(with_reducible exact zAW);assumption;omega;exact fun _=>rfl)|(apply zA4 (hd:=rfl) (hro:=rfl);(with_reducible exact zAp))|apply ay (hd:=rfl)|exact zAE rfl|exact zAC rfl|(apply zAf;exact rfl;(with_reducible exact zAY);exact rfl)|exact zBP rfl rfl|(apply zAU;exact rfl;(with_reducible first|exact zAs|exact zAn);exact rfl;exact rfl)|(apply zCn;exact rfl;(with_reducible exact zAY);exact rfl;exact rfl;exact rfl)|(refine w0' ?_)|(apply zAx;exact rfl;exact rfl;exact rfl;(with_reducible first|exact zAs|exact zAY);exact rfl;exact rfl;exact rfl;exact rfl)|exact zAK rfl|apply zAM|apply en_r|exact zAG|refine zAX rfl ?_
    exact zAq (zAO (Le_d rfl (by simp) zAa) (zAD rfl rfl (zAD rfl rfl zAN)) rfl rfl)
  | false =>
    have hpc:=hp y;rw [hpy] at hpc
    repeat' first | apply en_n|apply zAH|apply zAB|apply zAF|apply w0|exact zBF rfl|(apply zAV (hb:=zL0) (hc:=hc))|(apply zLa (hb:=hbf) (hc:=hpc);exact rfl)|(apply aJ (hd:=rfl);(first|exact zAk rfl|exact Co_bb rfl rfl rfl|exact Co_nn rfl);exact rfl;(with_reducible exact zAW);assumption;omega;exact fun _=>rfl)|(apply zA4 (hd:=rfl) (hro:=rfl);(with_reducible exact zAp))|apply ay (hd:=rfl)|exact zAE rfl|exact zAC rfl|(apply zAf;exact rfl;(with_reducible exact zAY);exact rfl)|exact zBP rfl rfl|(apply zAU;exact rfl;(with_reducible first|exact zAs|exact zAn);exact rfl;exact rfl)|(apply zCn;exact rfl;(with_reducible exact zAY);exact rfl;exact rfl;exact rfl)|(refine w0' ?_)|(apply zAx;exact rfl;exact rfl;exact rfl;(with_reducible first|exact zAs|exact zAY);exact rfl;exact rfl;exact rfl;exact rfl)|exact zAQ rfl|apply zAP|apply zAM|exact zAG|refine zAX rfl ?_
    exact zAq (zAO (Le_d rfl (by simp) zAa) (zAD rfl rfl (zAD rfl rfl zAN)) rfl rfl)
end Go.Proofs.YtblomnkamngnbaaGreatDoor
namespace Go.Proofs.YtblomnkamngnbaaGreatDoor
open Go.Sx
theorem zEi {f : Nat → Option (List UInt8 × Nat)} {L : List Nd} {p : Nd → Bool} {i j : Nat} {u : List UInt8} (h : argF f L p i = some (u,j)) : ∃ y s,L[i]? = some y ∧ f i = some (s,j) ∧ u = (if p y then 40 :: s ++ [41] else s):=by
  unfold argF at h
  split at h
  · rename_i y s k hy hs
    injection h with h;injection h with h1 h2;subst h1;subst h2
    exact ⟨y,s,hy,hs,rfl⟩
  · cases h
theorem zGB (L : List Nd) : ∀ (n i : Nat) (u : List UInt8) (j : Nat),zHM n L i = some (u,j) → i < j ∧ j ≤ L.length
  | 0,_,_,_,h=>by cases h
  | n + 1,i,u,j,h=>by
    have ih:=zGB L n
    unfold zHM at h
    split at h
    · cases h
    · rename_i x hx
      have hi:=(List.getElem?_eq_some_iff.1 hx).1
      split at h
      · injection h with h;injection h with h1 h2;omega
      · split at h
        · split at h
          · rename_i u1 j1 h1
            split at h
            · rename_i u2 j2 h2
              injection h with h;injection h with h3 h4;subst h4
              obtain ⟨_,_,_,q1,_⟩:=zEi h1
              obtain ⟨_,_,_,q2,_⟩:=zEi h2
              have:=ih _ _ _ q1;have:=ih _ _ _ q2;omega
            · cases h
          · cases h
        · have:=zEe (J:=fun p : List UInt8 × Nat=>i < p.2 ∧ p.2 ≤ L.length) (fun b x c hb hc=>by
            split at hc
            · rename_i u1 j1 h1
              injection hc with hc;subst hc
              obtain ⟨_,_,_,q1,_⟩:=zEi h1
              have:=ih _ _ _ q1
              simp only
              omega
            · cases hc) ⟨by simp,by simp only;omega⟩ h
          exact this
end Go.Proofs.YtblomnkamngnbaaGreatDoor
namespace Go.Proofs.YtblomnkamngnbaaGreatDoor
open Go.Sx
theorem Y_eqsF {P : Program} {η : List Ob} {σ : Sl} {dst : Option Nat} {ty : TypeId} {pos : String} {after : Array Edge} {gd : Option (Nat × Bool)} {t yt : TypeId} {x y : Operand} {u v : List UInt8} (h : u ≠ v) (hx : oval σ x = .d (str u)) (hy : oval σ y = .d (str v)) :
    Ylds P η σ ⟨dst,.binOp .eql t x y yt,ty,pos,after,gd⟩ (.d (.val (.bool false))):=by
  have:=zGi (P:=P) (η:=η) (σ:=σ) (dst:=dst) (ty:=ty) (pos:=pos) (after:=after) (gd:=gd) (t:=t) (yt:=yt) hx hy
  rwa [decide_eq_false h] at this
theorem zMD {s u : List UInt8} {b : Bool} (h : u = (if b then 40 :: s ++ [41] else s)) : s.length ≤ u.length:=by
  subst h;cases b <;> simp;omega
attribute [local irreducible] zAT Program.underlying Ylds zBA alex zBc zBO awp zAj zBX RCall zA2 zBH zBQ zA8 zBT zBZ zBd zBr zBN
set_option maxHeartbeats 4000000 in
theorem zOa (L : List Nd) (hL : L.length ≤ 1000000) (hnum : ∀ x ∈ L,0 ≤ x.num ∧ x.num ≤ 9223372036854775807) : ∀ (n i : Nat) (u : List UInt8) (j : Nat),zHM n L i = some (u,j) → u.length ≤ 1000000 →
    zAj Tryz.prog 41 [zAc L,i64 (i : Int)] (.tup [str u,i64 (j : Int)])
  | 0,_,_,_,h,_=>by cases h
  | n + 1,i,u,j,h,hu=>by
    have ih:=zOa L hL hnum n
    have hle:=zGB L (n + 1) i u j h
    unfold zHM at h
    split at h
    · cases h
    · rename_i x hx
      have hi:=(List.getElem?_eq_some_iff.1 hx).1
      have hxn:=hnum x (List.mem_of_getElem? hx)
      refine zH2 Tryz.func41 rfl Tryz.ntmps41 Tryz.results41 rfl ?_
      intro wb St0
      split at h
      · rename_i hk
        injection h with h;injection h with h1 h2;subst h1;subst h2
        repeat' first | apply en_n|apply zAH|apply zAB|apply zAF|apply w0|(apply zBD;exact rfl;exact rfl;first|assumption|omega)|(refine zCr ?_)|(refine zEn ?_)|exact zFp|(refine RV_d rfl ?_ ?_)|(apply zAV (hb:=zK4) (hc:=zLe x.num (by omega) (by omega));exact zAX rfl (zAX rfl zAG))|(apply zKE;exact rfl;exact rfl;simp only [List.length_cons,List.length_nil] at hu ⊢;omega)|(apply aJ (hd:=rfl);(first|exact zAk rfl|exact Co_bb rfl rfl rfl|exact Co_nn rfl);exact rfl;(with_reducible exact zAW);assumption;omega;exact fun _=>rfl)|(apply aBox (hd:=rfl) (hro:=rfl);exact rfl;exact rfl)|(apply zA4 (hd:=rfl) (hro:=rfl);(with_reducible exact zAp))|apply ay (hd:=rfl)|exact zAC rfl|(apply zAf;exact rfl;(with_reducible exact zAY);exact rfl)|exact zBC rfl rfl|(apply zAR;exact rfl;(with_reducible first|exact fn_0|exact fn_2))|(apply zAU;exact rfl;(with_reducible first|exact zAs|exact zAn|exact zAe|exact zBI);exact rfl;exact rfl)|(refine w0' ?_)|(apply zAx;exact rfl;exact rfl;exact rfl;(with_reducible first|exact zAs|exact zAY);exact rfl;exact rfl;exact rfl;exact rfl)|exact zAK rfl|apply zAM|refine zA6 (by kernel_rfl) (by kernel_rfl) ?_|apply en_r
        · omega
        · show i64 ((i : Int) + 1) = _;congr 1
        · rfl
      · rename_i hk
        split at h
        · rename_i ht
          split at h
          · rename_i u1 j1 h1
            split at h
            · rename_i u2 j2 h2
              injection h with h;injection h with h3 h4;subst h3;subst h4
              obtain ⟨y1,s1,hy1,hs1,e1⟩:=zEi h1
              obtain ⟨y2,s2,hy2,hs2,e2⟩:=zEi h2
              have l1:=zMD e1
              have l2:=zMD e2
              have b1:=zGB L _ _ _ _ hs1
              have b2:=zGB L _ _ _ _ hs2
              simp only [List.length_append,List.length_cons,List.length_nil] at hu
              have hc1:=zJY 75 (fun y=>decide (y.text = [45,62])) zRG zQj L (i + 1) j1 y1 s1 hy1 (by omega) (by omega) (by omega) (ih (i + 1) s1 j1 hs1 (by omega))
              have hc2:=zJY 76 (fun _=>false) zRF zQi L j1 j2 y2 s2 hy2 (by omega) (by omega) (by omega) (ih j1 s2 j2 hs2 (by omega))
              rw [← e1,show ((i + 1 : Nat) : Int) = (i : Int) + 1 by omega] at hc1
              rw [← e2] at hc2
              repeat' first | apply en_n|apply zAH|apply zAB|apply zAF|apply w0|(apply zA9;exact rfl;exact rfl;first|assumption|omega)|(refine zCr ?_)|(refine zEn ?_)|exact zFp|(refine RV_d rfl ?_ ?_)|(with_reducible exact rfl)|exact zGi rfl rfl|exact zBF rfl|exact zCp rfl|(refine zP7 [0,1] [0,1] rfl rfl zJr (hc1) rfl ?_ rfl rfl (by decide) rfl rfl rfl rfl rfl rfl ?_;(repeat (refine zAL rfl ?_));exact zAS)|(refine zP7 [0,1] [0,1] rfl rfl zJr (hc2) rfl ?_ rfl rfl (by decide) rfl rfl rfl rfl rfl rfl ?_;(repeat (refine zAL rfl ?_));exact zAS)|(apply zKE;exact rfl;exact rfl;(try simp only [List.length_append,List.length_cons,List.length_nil]);omega)|(apply aJ (hd:=rfl);(first|exact zAk rfl|exact Co_bb rfl rfl rfl|exact Co_nn rfl);exact rfl;(with_reducible exact zAW);assumption;omega;exact fun _=>rfl)|(apply aBox (hd:=rfl) (hro:=rfl);exact rfl;exact rfl)|(apply zA4 (hd:=rfl) (hro:=rfl);(with_reducible exact zAp))|apply ay (hd:=rfl)|exact zAE rfl|exact zAC rfl|(apply zAf;exact rfl;(with_reducible exact zAY);exact rfl)|exact zBC rfl rfl|(apply zAR;exact rfl;(with_reducible first|exact fn_0|exact fn_1|exact fn_3))|(apply zAU;exact rfl;(with_reducible first|exact zAs|exact zAn|exact zAe|exact zAv);exact rfl;exact rfl)|exact zF3 rfl|(refine w0' ?_)|(apply zAx;exact rfl;exact rfl;exact rfl;(with_reducible first|exact zAs|exact zAY);exact rfl;exact rfl;exact rfl;exact rfl)|(apply zAz;exact rfl;(intro hb);rotate_left;(intro hb);rotate_right)|exact zAQ rfl|apply zAI|apply zAP|apply zAM|refine zA6 (by kernel_rfl) (by kernel_rfl) ?_|apply en_r
              · omega
              · exact absurd ht hb
            · cases h
          · cases h
        · rename_i ht
          repeat' first | (apply Y_eqsF;exact ht;exact rfl;exact rfl)|apply en_n|apply zAH|apply zAB|apply zAF|apply w0|(apply zA9;exact rfl;exact rfl;first|assumption|omega)|exact zCp rfl|(apply aJ (hd:=rfl);(first|exact zAk rfl|exact Co_bb rfl rfl rfl|exact Co_nn rfl);exact rfl;(with_reducible exact zAW);assumption;omega;exact fun _=>rfl)|(apply aBox (hd:=rfl) (hro:=rfl);exact rfl;exact rfl)|(apply zA4 (hd:=rfl) (hro:=rfl);(with_reducible exact zAp))|apply ay (hd:=rfl)|exact zAE rfl|exact zAC rfl|(apply zAf;exact rfl;(with_reducible exact zAY);exact rfl)|exact zBC rfl rfl|(apply zAR;exact rfl;(with_reducible first|exact fn_0|exact fn_1|exact fn_3))|(apply zAU;exact rfl;(with_reducible first|exact zAs|exact zAn|exact zAe|exact zAv);exact rfl;exact rfl)|exact zF3 rfl|(refine w0' ?_)|(apply zAx;exact rfl;exact rfl;exact rfl;(with_reducible first|exact zAs|exact zAY);exact rfl;exact rfl;exact rfl;exact rfl)|exact zAQ rfl|apply zAI|apply zAP
          · omega
          generalize hf : (fun (p : List UInt8 × Nat) (_ : Nat)=>match argF (zHM n L) L (fun y=>decide (y.kids > 0)) p.2 with
            | some (u,j)=>some (p.1 ++ 32 :: u,j)
            | none=>none) = f at h
          have hf' : ∀ p m c,f p m = some c → ∃ u1 j1,argF (zHM n L) L (fun y=>decide (y.kids > 0)) p.2 = some (u1,j1) ∧ c = (p.1 ++ 32 :: u1,j1):=fun p m c hc=>by
            rw [← hf] at hc
            dsimp only at hc
            split at hc
            · rename_i u1 j1 h1
              injection hc with hc
              exact ⟨u1,j1,h1,hc.symm⟩
            · cases hc
          clear hf
          refine zAr (α:=Nat × (List UInt8 × Nat)) (fun p=>p.1 ≤ x.kids.toNat ∧ zCB f (x.text,i + 1) ((List.range x.kids.toNat).take p.1) = some p.2 ∧ i + 1 + p.1 ≤ p.2.2 ∧ p.2.2 ≤ L.length) (fun p=>[(2,.ptr 0 0),(3,.ptr 1 0),(7,.clo 74 [0,1]),(10,.d (str p.2.1)),(41,.d (i64 x.kids)),(42,.d (i64 (p.1 : Int)))])
            (fun p=>[.bx none none [.d (zAc L)],.bx none none [.d (i64 (p.2.2 : Int))]]) (fun p=>x.kids.toNat - p.1) (0,(x.text,i + 1)) ⟨Nat.zero_le _,by simp [zCB],Nat.le_refl _,by simp only;omega⟩
            (zAO (zAA rfl (zAA rfl (zAA rfl (zAA rfl (zAA rfl (zAA rfl zAa)))))) (zAD rfl rfl (zAD rfl rfl zAN)) rfl rfl) ?_
          rintro ⟨m,acc,at_⟩ ⟨hm,hfo,hp1,hp2⟩
          dsimp only at hm hfo hp1 hp2 ⊢
          rcases Nat.lt_or_ge m x.kids.toNat with hlt | hge
          · have hix : (List.range x.kids.toNat)[m]? = some m:=List.getElem?_range hlt
            obtain ⟨c,hc⟩:=zEc h (m + 1)
            have hst:=zEd hix hfo
            rw [hc] at hst
            obtain ⟨u1,j1,ha,rfl⟩:=hf' _ _ _ hst.symm
            have hlen : (acc ++ 32 :: u1).length ≤ u.length:=by
              have h2:=h
              rw [← List.take_append_drop (m + 1) (List.range x.kids.toNat),zIO,hc,Option.bind_some] at h2
              exact zEe (J:=fun p : List UInt8 × Nat=>(acc ++ 32 :: u1).length ≤ p.1.length) (fun b x c hb hc=>by
                obtain ⟨u2,j2,_,rfl⟩:=hf' _ _ _ hc
                simp only [List.length_append] at hb ⊢;omega) (Nat.le_refl _) h2
            rw [List.length_append,List.length_cons] at hlen
            obtain ⟨y1,s1,hy1,hs1,e1⟩:=zEi ha
            have l1:=zMD e1
            have b1:=zGB L _ _ _ _ hs1
            dsimp only at hy1 hs1 ha b1
            have hc1:=zJY 77 (fun y=>decide (y.kids > 0)) zRE zQh L at_ j1 y1 s1 hy1 (by omega) (by omega) (by omega) (ih at_ s1 j1 hs1 (by omega))
            rw [← e1] at hc1
            have hmk : (m : Int) < x.kids:=by omega
            repeat' first | apply en_n|apply zAH|apply zAB|apply zAF|apply w0|(apply zA5;exact rfl;exact rfl;first|assumption|omega)|exact zBF rfl|(refine zP7 [0,1] [0,1] rfl rfl zJr (hc1) rfl ?_ rfl rfl (by decide) rfl rfl rfl rfl rfl rfl ?_;(repeat (refine zAL rfl ?_));exact zAS)|(apply zKE;exact rfl;exact rfl;(try simp only [List.length_append,List.length_cons,List.length_nil]);omega)|apply ay (hd:=rfl)|exact zAE rfl|exact zAC rfl|exact zBC rfl rfl|exact zAK rfl|apply zAI|apply zAP|apply eb_n
            · omega
            · exact ⟨(m + 1,(acc ++ 32 :: u1,j1)),⟨hlt,hc,by simp only;omega,b1.2⟩,by show x.kids.toNat - (m + 1) < _;omega,zAO (zAA rfl (zAA rfl (zAA rfl (zAA rfl (zAA rfl (zAA rfl zAa)))))) (zAD rfl rfl (zAD rfl rfl zAN)) rfl rfl⟩
          · have e2 : (acc,at_) = (u,j):=by rw [List.take_of_length_le (by rw [List.length_range];exact hge),h] at hfo;injection hfo with hfo;exact hfo.symm
            injection e2 with e2 e3;subst e2;subst e3
            have hmk : ¬ (m : Int) < x.kids:=by omega
            repeat' first | apply en_n|apply zAH|apply zAB|apply zAF|apply w0|(apply zBn;exact rfl;exact rfl;first|assumption|omega)|(refine zCr ?_)|(refine zEn ?_)|exact zFp|(refine RV_d rfl ?_ ?_)|(with_reducible exact rfl)|apply ay (hd:=rfl)|exact zAE rfl|exact zAC rfl|(apply zAU;exact rfl;(with_reducible exact zAs);exact rfl;exact rfl)|exact zAQ rfl|apply zAM|apply zAt|refine zA6 (by kernel_rfl) (by kernel_rfl) ?_|apply en_e|apply eb_e
            all_goals rfl
end Go.Proofs.YtblomnkamngnbaaGreatDoor
namespace Go.Proofs.YtblomnkamngnbaaGreatDoor
open Go.Sx
attribute [local irreducible] zAT Program.underlying Ylds zBA alex zBc zBO awp zAj zBX RCall zA2 zBH zBQ zA8 zBT zBZ zBd zBr zBN
theorem zTI (L : List Nd) (hL : L.length ≤ 1000000) (hnum : ∀ x ∈ L,0 ≤ x.num ∧ x.num ≤ 9223372036854775807) (hc : ckT L = 0) (n : Nat) (u : List UInt8) (j : Nat) (h : zHM n L 0 = some (u,j)) (hu : u.length ≤ 1000000) :
    zAj Tryz.prog 18 [zAc L] (.tup [str u,i64 0]):=by
  have hs:=zOa L hL hnum n 0 u j h hu
  have hL2 : L.length ≤ 2000000:=by omega
  refine zH2 Tryz.func18 rfl Tryz.ntmps18 Tryz.results18 rfl ?_
  intro wb St0
  repeat' first | apply en_n|apply zAH|apply zAB|apply zAF|apply w0|(apply zBS;exact rfl;exact rfl;first|assumption|omega)|(refine zCr ?_)|(refine zEn ?_)|exact zFp|(refine RV_d rfl ?_ ?_)|(with_reducible exact rfl)|(apply zAV (hb:=zCH) (hc:=zCO L hL2);exact zAX rfl zAG)|(apply zAV (hb:=zL0) (hc:=hs);exact zAX rfl (zAX rfl zAG))|apply ay (hd:=rfl)|exact zAE rfl|exact zAC rfl|exact zBP rfl rfl|exact zAQ rfl|apply zAP|apply zAM
  all_goals rfl
end Go.Proofs.YtblomnkamngnbaaGreatDoor
namespace Go.Proofs.YtblomnkamngnbaaGreatDoor
open Go.Sx Go.RowKit
theorem zG0 : zAT Tryz.prog 5 = true:=by kernel_rfl
def runF (E : List Sg) (t : Tr) (q : Nat) : Option (List Nd × Int):=match t.expS q E [] TS0 with
  | some (u,S1)=>(match zEY q S1 u with
    | some (r,S2)=>if S2.er = 0 then (if okT r then some (zIX r,0) else none) else some ([],S2.er)
    | none=>none)
  | none=>none
theorem IR.of_run {E : List Sg} {t : Tr} {q : Nat} {r : List Nd} {e : Int} (hw : t.wf) (hc : chkT t false = 0) (he : envF E = true) (hn : nmdF E t.fl (zFz t) = true) (h : runF E t q = some (r,e)) : IR E t.fl r e:=by
  unfold runF at h
  split at h
  · rename_i u S1 h1
    split at h
    · rename_i r' S2 h2
      split at h
      · rename_i h0
        split at h
        · rename_i ho
          injection h with h;injection h with e1 e2;subst e1;subst e2
          have:=IR.run (E:=E) t q u r' S1 S2 hw hc he hn h1 h2 fun _=>ho
          rw [if_pos h0,h0] at this;exact this
        · cases h
      · rename_i h0
        injection h with h;injection h with e1 e2;subst e1;subst e2
        have:=IR.run (E:=E) t q u r' S1 S2 hw hc he hn h1 h2 fun c=>absurd c h0
        rw [if_neg h0] at this;exact this
    · cases h
  · cases h
def iT : Tr:=.mk ⟨5,[120],0,1⟩ [.mk ⟨3,[120],0,0⟩ []]
def vT : Tr:=.mk ⟨3,[105],0,0⟩ []
def pT : Tr:=.mk ⟨6,[],0,2⟩ [vT,vT]
def lT : Tr:=.mk ⟨7,[105],0,2⟩ [iT,pT]
def iiT : List Nd:=[⟨32,arrT,0,2⟩,⟨31,[],0,0⟩,⟨31,[],0,0⟩]
theorem zUj : lT.fl = zO4 ⟨7,[105],0,0⟩ [iT.fl,zO4 ⟨6,[],0,0⟩ [vT.fl,vT.fl]]:=by decide +kernel
theorem zTm : iT.wf:=by simp [iT,Tr.wf,wfL]
theorem zUe : vT.wf:=by simp [vT,Tr.wf,wfL]
theorem zTf : lT.wf:=by simp [lT,pT,iT,vT,Tr.wf,wfL]
theorem zUr : chkT iT false = 0:=by decide +kernel
theorem zUg : chkT vT false = 0:=by decide +kernel
theorem zUk : chkT lT false = 0:=by decide +kernel
theorem zRU : envF [] = true:=rfl
theorem zUq : nmdF [] iT.fl (zFz iT) = true:=by decide +kernel
theorem zUf : nmdF [] vT.fl (zFz vT) = false:=by decide +kernel
theorem zUi : nmdF [] lT.fl (zFz lT) = true:=by decide +kernel
theorem zTo : runF [] iT 10 = some (iiT,0):=by decide +kernel
theorem zTh : runF [] lT 20 = some (iiT,0):=by decide +kernel
theorem iT_ir : IR [] iT.fl iiT 0:=.of_run zTm zUr zRU zUq zTo
theorem lT_ir : IR [] lT.fl iiT 0:=.of_run zTf zUk zRU zUi zTh
theorem vT_ir : IR [] vT.fl [] 111:=.name vT zUe zUg zRU zUf
theorem zTn : zMT iT = true:=by decide +kernel
theorem zTg : zMT lT = false:=by decide +kernel
def iiS : List UInt8:=[39,48,32,45,62,32,39,48]
theorem zUl : Lib.itoa 0 = [48]:=by rw [Lib.itoa,if_neg (by decide),show (0 : Int).toNat = 0 from rfl,Lib.decDigits_one (by decide)];rfl
theorem zUo : zHM 10 iiT 0 = some (iiS,3):=by
  simp [zHM,argF,zUl,zCB,iiT,arrT,iiS]
theorem zUp : ckT iiT = 0:=by decide +kernel
attribute [local irreducible] zAT Program.underlying Ylds zBA alex zBc zBO awp zAj zBX RCall zA2 zBH zBQ zA8 zBT zBZ zBd zBr zBN
set_option maxHeartbeats 8000000 in
theorem zGy : zAj Tryz.prog 5 [] (bl true):=by
  have h1:=iT_ir.call (by decide) (by decide) (fun s hs=>absurd hs List.not_mem_nil)
  have h2:=lT_ir.call (by decide) (by decide) (fun s hs=>absurd hs List.not_mem_nil)
  have h3:=vT_ir.call (by decide) (by decide) (fun s hs=>absurd hs List.not_mem_nil)
  have h4:=zTI iiT (by decide) (by decide) zUp 10 iiS 3 zUo (by decide)
  have h5:=zQK ⟨6,[],0,0⟩ [vT.fl,vT.fl] (by simp) (by decide)
  have h6:=zQK ⟨7,[105],0,0⟩ [iT.fl,zO4 ⟨6,[],0,0⟩ [vT.fl,vT.fl]] (by simp) (by decide)
  rw [← zUj] at h6
  have h7:=zTJ iiT iiT (by decide)
  rw [decide_eq_true rfl] at h7
  have h8:=zID iT zTm (by decide)
  rw [zTn] at h8
  have h9:=zID lT zTf (by decide)
  rw [zTg] at h9
  have h10:=zFE [] (by decide) (fun s hs=>absurd hs List.not_mem_nil)
  rw [zRU,if_pos rfl] at h10
  refine zAd Tryz.func5 rfl Tryz.ntmps5 Tryz.results5 rfl ?_
  intro wb St0
  repeat' first | apply en_n|apply zAH|apply zAB|apply zAF|apply w0|exact zBD rfl rfl rfl|exact zGi rfl rfl|(refine zBE (cs:=Nd.cells ⟨5,[120],0,1⟩) zE9 zAp (PD_d rfl rfl (PD_d rfl rfl (PD_d rfl rfl zBy))) rfl)|(refine zBE (cs:=Nd.cells ⟨3,[120],0,0⟩) zE9 zAp (PD_d rfl rfl (PD_d rfl rfl zBy)) rfl)|(refine zBE (cs:=Nd.cells ⟨3,[105],0,0⟩) zE9 zAp (PD_d rfl rfl (PD_d rfl rfl zBy)) rfl)|(refine zBE (cs:=Nd.cells ⟨7,[105],0,0⟩) zE9 zAp (PD_d rfl rfl (PD_d rfl rfl zBy)) rfl)|(refine zBE (cs:=Nd.cells ⟨6,[],0,0⟩) zE9 zAp (PD_d rfl rfl zBy) rfl)|(refine zAV zJy h1 (zDB rfl (zAX rfl zAG)))|(refine zAV zJy h2 (zDB rfl (zAX rfl zAG)))|(refine zAV zJy h3 (zDB rfl (zAX rfl zAG)))|(refine zAV zSn h4 (zAX rfl zAG))|(refine zAV zPN h5 (zAX rfl (zAX rfl zAG)))|(refine zAV zPN h6 (zAX rfl (zAX rfl zAG)))|(refine zAV zSo h7 (zAX rfl (zAX rfl zAG)))|(refine zAV zGV h8 (zAX rfl zAG))|(refine zAV zGV h9 (zAX rfl zAG))|(refine zAV zD3 h10 (zDB rfl zAG))|apply ay (hd:=rfl)|exact zAE rfl|exact zAC rfl|exact zBo rfl|exact zAi rfl rfl|exact zBP rfl rfl|(apply zB8;(with_reducible exact zBb);(with_reducible exact zAW);(with_reducible exact zDM);exact rfl;exact rfl;(first|exact zAX rfl zAG|exact zCx rfl rfl rfl zAG|exact zDB rfl zAG);exact rfl)|(apply zUN;(with_reducible first|exact zBb|exact zDu);(with_reducible first|exact zAW|exact zCP);(with_reducible first|exact zDM|exact zHS);exact rfl;exact rfl;(first|exact zAX rfl (zAX rfl zAG)|exact zCx rfl rfl rfl (zCx rfl rfl rfl zAG));exact rfl)|exact w1 rfl rfl|apply zAM|apply zAJ|exact res1 rfl
  all_goals rfl
end Go.Proofs.YtblomnkamngnbaaGreatDoor
namespace Go.Proofs.YtblomnkamngnbaaGreatDoor
open Go.Sx Go.RowKit
theorem zGU : zAT Tryz.prog 20 = true:=by kernel_rfl
theorem zHZ : zAT Tryz.prog 19 = true:=by kernel_rfl
theorem zC2 : zAT Tryz.prog 82 = true:=by kernel_rfl
theorem zD1 : zAT Tryz.prog 83 = true:=by kernel_rfl
theorem zCv : zAT Tryz.prog 46 = true:=by kernel_rfl
theorem zKy : zAT Tryz.prog 45 = true:=by kernel_rfl
theorem zEa : zAT Tryz.prog 25 = true:=by kernel_rfl
theorem zKz : zAT Tryz.prog 47 = true:=by kernel_rfl
theorem zFc : zAT Tryz.prog 26 = true:=by kernel_rfl
theorem zI9 : zAT Tryz.prog 8 = true:=by kernel_rfl
attribute [local irreducible] zAT Program.underlying Ylds zBA alex zBc zBO awp zAj zBX RCall zA2 zBH zBQ zA8 zBT zBZ zBd zBr zBN
theorem zNf (s : List UInt8) (hs : s.length ≤ 9223372036854775807) : zAj Tryz.prog 20 [str s] (bl (zD9 s)):=by
  refine zAd Tryz.func20 rfl Tryz.ntmps20 Tryz.results20 rfl ?_
  intro wb St0
  repeat' first | apply en_n|apply zAH|apply zAB|apply zAF|apply w0|(apply zBE;exact zJg;exact zDf;exact PD_d rfl rfl (PD_d rfl rfl zBy);exact rfl)|(refine zAV zB5 (zGr ⟨1,s,0,0⟩ hs) (zAX rfl zAG))|(refine zAV zB5 (zGr ⟨5,s,0,0⟩ hs) (zAX rfl zAG))|apply ay (hd:=rfl)|exact zAE rfl|exact zAC rfl|exact zAi rfl rfl|exact zAh rfl rfl|exact w1 rfl rfl|(apply k0 (hd:=rfl);exact rfl;exact rfl)|(apply g1;exact rfl;exact rfl;(intro hb);rotate_left;(intro hb);rotate_right)|apply zAM|apply zAJ|exact res1 rfl
  · rw [zD9,hb];rfl
  · rw [zD9,hb];rfl
theorem zKe (s : List UInt8) (hs : s.length ≤ 1000000) : zAj Tryz.prog 20 [str s] (bl (zD9 s)):=zNf s (by omega)
theorem zJe (s : List UInt8) (hs : s.length ≤ 1000000) : zAj Tryz.prog 19 [str s] (bl (conF s)):=by
  refine zAd Tryz.func19 rfl Tryz.ntmps19 Tryz.results19 rfl ?_
  intro wb St0
  repeat' first | apply en_n|apply zAH|apply zAB|apply zAF|apply w0|(apply zBE;exact zJg;exact zDf;exact PD_d rfl rfl (PD_d rfl rfl zBy);exact rfl)|(refine zAV zB5 (zEU ⟨2,s,0,0⟩ hs) (zAX rfl zAG))|apply ay (hd:=rfl)|exact zAE rfl|exact zAC rfl|apply zAM|apply zAJ|exact res1 rfl
  rfl
def zEm (k : Int) : Int:=if k = 1 ∨ k = 6 ∨ k = 9 ∨ k = 10 ∨ k = 11 ∨ k = 21 ∨ k = 23 then 0 else if namK k = true then 1 else if k = 4 ∨ k = 24 then 2 else if k = 2 then 3 else -1
theorem zH7 (k : Int) : (k = 1 ∨ k = 2 ∨ k = 3 ∨ k = 4 ∨ k = 5 ∨ k = 6 ∨ k = 7 ∨ k = 8 ∨ k = 9 ∨ k = 10 ∨ k = 11 ∨ k = 12 ∨ k = 21 ∨ k = 22 ∨ k = 23 ∨ k = 24) ∨ (okK k = false ∧ (k < 1 ∨ (12 < k ∧ k < 21) ∨ 24 < k)):=by
  by_cases h : (1 ≤ k ∧ k ≤ 12) ∨ (21 ≤ k ∧ k ≤ 24)
  · left;omega
  · right;exact ⟨decide_eq_false h,by omega⟩
set_option maxHeartbeats 8000000 in
theorem zHw (k : Int) : zAj Tryz.prog 82 [i64 k] (i64 (zEm k)):=by
  rcases zH7 k with (rfl | rfl | rfl | rfl | rfl | rfl | rfl | rfl | rfl | rfl | rfl | rfl | rfl | rfl | rfl | rfl) | ⟨_,h⟩
  case inr =>
    have e : zEm k = -1:=by
      unfold zEm namK
      rw [if_neg (by omega),if_neg (by rw [decide_eq_true_eq];omega),if_neg (by omega),if_neg (by omega)]
    rw [e]
    refine zAd Tryz.func82 rfl Tryz.ntmps82 Tryz.results82 rfl ?_
    intro wb St0
    repeat' first | apply en_n|apply zAH|apply zAB|apply zAF|apply w0|(apply zA9;exact rfl;exact rfl;first|assumption|omega)|apply ay (hd:=rfl)|exact zAE rfl|exact zAC rfl|exact zAQ rfl|apply zAI|apply zAP|apply zAM|apply eb_n|apply zAJ|exact res1 rfl
    rfl
  all_goals
    refine zAd Tryz.func82 rfl Tryz.ntmps82 Tryz.results82 rfl ?_
    intro wb St0
    repeat' first | apply en_n|apply zAH|apply zAB|apply zAF|apply w0|(apply zBD;exact rfl;exact rfl;first|assumption|omega)|(apply zA9;exact rfl;exact rfl;first|assumption|omega)|apply ay (hd:=rfl)|exact zAE rfl|exact zAC rfl|exact zAK rfl|exact zAQ rfl|apply zAI|apply zAP|apply zAM|apply en_r|apply eb_r|apply zAJ|exact res1 rfl
  all_goals rfl
set_option maxHeartbeats 8000000 in
theorem zKc (k n : Int) : zAj Tryz.prog 83 [i64 k,i64 n] (bl (cntK k n)):=by
  rcases zH7 k with (rfl | rfl | rfl | rfl | rfl | rfl | rfl | rfl | rfl | rfl | rfl | rfl | rfl | rfl | rfl | rfl) | ⟨_,h⟩
  case inr =>
    have e : cntK k n = decide (n = 0):=by
      unfold cntK
      rw [if_neg (by omega),if_neg (by omega),if_neg (by omega),if_neg (by omega),if_neg (by omega)]
    rw [e]
    refine zAd Tryz.func83 rfl Tryz.ntmps83 Tryz.results83 rfl ?_
    intro wb St0
    repeat' first | apply en_n|apply zAH|apply zAB|apply zAF|apply w0|(apply zA9;exact rfl;exact rfl;(first|assumption|omega))|apply ay (hd:=rfl)|exact zAE rfl|exact zAC rfl|exact zCz rfl rfl|exact zAQ rfl|apply zAI|apply zAP|apply zAM|apply eb_n|apply zAJ|exact res1 rfl
    rfl
  all_goals
    refine zAd Tryz.func83 rfl Tryz.ntmps83 Tryz.results83 rfl ?_
    intro wb St0
    repeat' first | apply en_n|apply zAH|apply zAB|apply zAF|apply w0|(apply k1u (hd:=rfl);exact rfl;exact rfl)|exact zBD rfl rfl rfl|(apply zA9;exact rfl;exact rfl;exact (by decide))|(apply zMH;exact rfl;exact rfl;exact (by decide))|apply ay (hd:=rfl)|exact zAE rfl|exact zAC rfl|exact zEO rfl rfl|exact zCz rfl rfl|exact zAi rfl rfl|exact zAh rfl rfl|exact w1 rfl rfl|(apply gD;exact rfl;exact rfl;(intro hb);rotate_left;(intro hb);rotate_right)|exact zAK rfl|exact zAQ rfl|apply zAI|apply zAP|apply zAM|apply en_r|apply eb_n|apply eb_r|apply zAJ|exact res1 rfl
  all_goals first
    | rfl
    | (refine zC4 ?_
       rw [cntK,if_neg (by decide),if_neg (by decide),if_neg (by decide),if_pos rfl]
       first
         | (rw [Int.tmod_eq_emod_of_nonneg (by omega),decide_eq_decide];omega)
         | (symm;rw [decide_eq_false_iff_not];omega))
theorem zGs (k : Int) : zAj Tryz.prog 46 [i64 k] (bl (patK k)):=by
  refine zAd Tryz.func46 rfl Tryz.ntmps46 Tryz.results46 rfl ?_
  intro wb St0
  repeat' first | apply en_n|apply zAH|apply zAB|apply zAF|apply w0|(apply k1u (hd:=rfl);exact rfl;exact rfl)|apply ay (hd:=rfl)|exact zAE rfl|exact zAC rfl|exact zG9 rfl rfl|exact zEO rfl rfl|exact zAi rfl rfl|exact zAh rfl rfl|exact w1 rfl rfl|(apply gD;exact rfl;exact rfl;(intro hb);rotate_left;(intro hb);rotate_right)|apply zAM|apply zAJ|exact res1 rfl
  · refine zC4 ?_
    rw [patK,decide_eq_decide];omega
  · refine zC4 ?_
    symm;rw [patK,decide_eq_false_iff_not];omega
end Go.Proofs.YtblomnkamngnbaaGreatDoor
namespace Go.Proofs.YtblomnkamngnbaaGreatDoor
open Go.Sx
attribute [local irreducible] zAT Program.underlying Ylds zBA alex zBc zBO awp zAj zBX RCall zA2 zBH zBQ zA8 zBT zBZ zBd zBr zBN
set_option maxHeartbeats 8000000 in
theorem zQv (L : List Nd) (n : Nat) (x y : Nd) (kx : Int) (pat : Bool) (nm cn : Bool) (hx : L[n]? = some x) (hlen : n < 2000000) (h : x.kind = 1 ∨ x.kind = 23) (hp : patK x.kind = pat)
    (hs : zAj Tryz.prog 82 [i64 x.kind] (i64 0)) (hi : zAj Tryz.prog 46 [i64 x.kind] (bl pat)) (hk : zAj Tryz.prog 83 [i64 x.kind,i64 x.kids] (bl true))
    (hN : zAj Tryz.prog 20 [str x.text] (bl nm)) (hC : zAj Tryz.prog 19 [str x.text] (bl cn)) (hW : zAj Tryz.prog 81 [i64 x.num] (i64 (W x.num))) :
    zAj Tryz.prog 45 [zAc L,i64 (n : Int),bl pat] (i64 (genE true false none pat true pat x (False))):=by
  rcases h with h | h <;> cases pat
  all_goals first
    | (exfalso;rw [h] at hp;revert hp;decide)
    | skip
  all_goals
    refine zAd Tryz.func45 rfl Tryz.ntmps45 Tryz.results45 rfl ?_
    intro wb St0
    repeat' first | apply en_n|apply zAH|apply zAB|apply zAF|apply w0|(apply kUd (hd:=rfl);exact rfl;exact rfl)|(apply k1ud (hd:=rfl);exact rfl;exact rfl)|(apply k0ud (hd:=rfl);exact rfl;exact rfl)|(apply k1u (hd:=rfl);exact rfl;exact rfl)|(apply k0u (hd:=rfl);exact rfl;exact rfl)|(apply zBn;exact rfl;exact rfl;first|assumption|omega)|(apply zBD;exact rfl;exact rfl;first|assumption|omega)|(apply zA9;exact rfl;exact rfl;first|assumption|omega)|exact zGg rfl rfl|(apply zFM;exact rfl;exact rfl;with_reducible exact zF8)|(refine zAV zC2 hs (zAX rfl zAG))|(refine zAV zD1 hk (zAX rfl (zAX rfl zAG)))|(refine zAV zCv hi (zAX rfl zAG))|(refine zAV zM5 hW (zAX rfl zAG))|(apply aJ (hd:=rfl);(first|exact zAk rfl|exact Co_bb rfl rfl rfl|exact Co_nn rfl);exact rfl;(with_reducible exact zAW);assumption;omega;exact fun _=>rfl)|(apply zA4 (hd:=rfl) (hro:=rfl);(with_reducible exact zAp))|apply ay (hd:=rfl)|exact zAE rfl|exact zAC rfl|(apply zAf;exact rfl;(with_reducible exact zAY);exact rfl)|exact zD6 rfl rfl|exact zBo rfl|exact zAi rfl rfl|exact zAh rfl rfl|(apply zAR;exact rfl;(with_reducible first|exact fn_0|exact fn_1|exact fn_2|exact fn_3))|(apply zAU;exact rfl;(with_reducible first|exact zAs|exact zAe|exact zBI|exact zAv);exact rfl;exact rfl)|exact w1 rfl rfl|(apply gD;exact rfl;exact rfl;(intro hb);rotate_left;(intro hb);rotate_right)|(refine w0' ?_)|(apply zAx;exact rfl;exact rfl;exact rfl;(with_reducible exact zAY);exact rfl;exact rfl;exact rfl;exact rfl)|exact zAK rfl|exact zAQ rfl|apply zAP|apply zAM|refine zA6 (by kernel_rfl) (by kernel_rfl) ?_|apply en_r|apply zAJ|exact res1 rfl
  all_goals try omega
  all_goals clear hs hi hk hN hC hW
  all_goals refine zCl ?_
  all_goals first | (simp_all [genE];done) | (simp_all [genE];omega)
set_option maxHeartbeats 8000000 in
theorem zQu (L : List Nd) (n : Nat) (x y : Nd) (kx : Int) (pat : Bool) (nm cn : Bool) (hx : L[n]? = some x) (hlen : n < 2000000) (h : x.kind = 6 ∨ x.kind = 9 ∨ x.kind = 10 ∨ x.kind = 11 ∨ x.kind = 21) (hp : patK x.kind = pat)
    (hs : zAj Tryz.prog 82 [i64 x.kind] (i64 0)) (hi : zAj Tryz.prog 46 [i64 x.kind] (bl pat)) (hk : zAj Tryz.prog 83 [i64 x.kind,i64 x.kids] (bl true))
    (hN : zAj Tryz.prog 20 [str x.text] (bl nm)) (hC : zAj Tryz.prog 19 [str x.text] (bl cn)) (hW : zAj Tryz.prog 81 [i64 x.num] (i64 (W x.num))) :
    zAj Tryz.prog 45 [zAc L,i64 (n : Int),bl pat] (i64 (genE false false none pat true pat x (False))):=by
  cases pat
  all_goals
    refine zAd Tryz.func45 rfl Tryz.ntmps45 Tryz.results45 rfl ?_
    intro wb St0
    repeat' first | apply en_n|apply zAH|apply zAB|apply zAF|apply w0|(apply kUd (hd:=rfl);exact rfl;exact rfl)|(apply k1ud (hd:=rfl);exact rfl;exact rfl)|(apply k0ud (hd:=rfl);exact rfl;exact rfl)|(apply k1u (hd:=rfl);exact rfl;exact rfl)|(apply zBn;exact rfl;exact rfl;first|assumption|omega)|(apply zBD;exact rfl;exact rfl;first|assumption|omega)|(apply zA9;exact rfl;exact rfl;first|assumption|omega)|exact zGg rfl rfl|(apply zFM;exact rfl;exact rfl;with_reducible exact zF8)|(refine zAV zC2 hs (zAX rfl zAG))|(refine zAV zD1 hk (zAX rfl (zAX rfl zAG)))|(refine zAV zCv hi (zAX rfl zAG))|(apply aJ (hd:=rfl);(first|exact zAk rfl|exact Co_bb rfl rfl rfl|exact Co_nn rfl);exact rfl;(with_reducible exact zAW);assumption;omega;exact fun _=>rfl)|(apply zA4 (hd:=rfl) (hro:=rfl);(with_reducible exact zAp))|apply ay (hd:=rfl)|exact zAE rfl|exact zAC rfl|(apply zAf;exact rfl;(with_reducible exact zAY);exact rfl)|exact zD6 rfl rfl|exact zBo rfl|exact zAi rfl rfl|exact zAh rfl rfl|(apply zAR;exact rfl;(with_reducible first|exact fn_0|exact fn_1|exact fn_2|exact fn_3))|(apply zAU;exact rfl;(with_reducible first|exact zAs|exact zAe|exact zBI|exact zAv);exact rfl;exact rfl)|exact w1 rfl rfl|(apply gD;exact rfl;exact rfl;(intro hb);rotate_left;(intro hb);rotate_right)|(refine w0' ?_)|(apply zAx;exact rfl;exact rfl;exact rfl;(with_reducible exact zAY);exact rfl;exact rfl;exact rfl;exact rfl)|exact zAK rfl|exact zAQ rfl|apply zAP|apply zAM|refine zA6 (by kernel_rfl) (by kernel_rfl) ?_|apply en_r|apply zAJ|exact res1 rfl
  all_goals try omega
  all_goals clear hs hi hk hN hC hW
  all_goals refine zCl ?_
  all_goals first | (simp_all [genE];done) | (simp_all [genE];omega)
end Go.Proofs.YtblomnkamngnbaaGreatDoor
namespace Go.Proofs.YtblomnkamngnbaaGreatDoor
open Go.Sx
attribute [local irreducible] zAT Program.underlying Ylds zBA alex zBc zBO awp zAj zBX RCall zA2 zBH zBQ zA8 zBT zBZ zBd zBr zBN
set_option maxHeartbeats 8000000 in
theorem zQt (L : List Nd) (n : Nat) (x y : Nd) (kx : Int) (pat : Bool) (nm cn : Bool) (hx : L[n]? = some x) (hlen : n < 2000000) (h : x.kind = 3 ∨ x.kind = 5 ∨ x.kind = 7 ∨ x.kind = 12 ∨ x.kind = 22) (hp : patK x.kind = pat)
    (hs : zAj Tryz.prog 82 [i64 x.kind] (i64 1)) (hi : zAj Tryz.prog 46 [i64 x.kind] (bl pat)) (hk : zAj Tryz.prog 83 [i64 x.kind,i64 x.kids] (bl true))
    (hN : zAj Tryz.prog 20 [str x.text] (bl nm)) (hC : zAj Tryz.prog 19 [str x.text] (bl cn)) (hW : zAj Tryz.prog 81 [i64 x.num] (i64 (W x.num))) :
    zAj Tryz.prog 45 [zAc L,i64 (n : Int),bl pat] (i64 (genE false false (some nm) pat true pat x (False))):=by
  cases pat
  all_goals
    refine zAd Tryz.func45 rfl Tryz.ntmps45 Tryz.results45 rfl ?_
    intro wb St0
    repeat' first | apply en_n|apply zAH|apply zAB|apply zAF|apply w0|(apply kUd (hd:=rfl);exact rfl;exact rfl)|(apply k1ud (hd:=rfl);exact rfl;exact rfl)|(apply k0ud (hd:=rfl);exact rfl;exact rfl)|(apply kU (hd:=rfl);exact rfl;exact rfl)|(apply k1u (hd:=rfl);exact rfl;exact rfl)|(apply k0u (hd:=rfl);exact rfl;exact rfl)|(apply zBn;exact rfl;exact rfl;first|assumption|omega)|(apply zBD;exact rfl;exact rfl;first|assumption|omega)|(apply zA9;exact rfl;exact rfl;first|assumption|omega)|(apply zFM;exact rfl;exact rfl;with_reducible exact zF8)|(refine zAV zC2 hs (zAX rfl zAG))|(refine zAV zD1 hk (zAX rfl (zAX rfl zAG)))|(refine zAV zCv hi (zAX rfl zAG))|(refine zAV zGU hN (zAX rfl zAG))|(apply aJ (hd:=rfl);(first|exact zAk rfl|exact Co_bb rfl rfl rfl|exact Co_nn rfl);exact rfl;(with_reducible exact zAW);assumption;omega;exact fun _=>rfl)|(apply zA4 (hd:=rfl) (hro:=rfl);(with_reducible exact zAp))|apply ay (hd:=rfl)|exact zAE rfl|exact zAC rfl|(apply zAf;exact rfl;(with_reducible exact zAY);exact rfl)|exact zD6 rfl rfl|exact zBo rfl|exact zAi rfl rfl|exact zAh rfl rfl|(apply zAR;exact rfl;(with_reducible first|exact fn_0|exact fn_1|exact fn_2|exact fn_3))|(apply zAU;exact rfl;(with_reducible first|exact zAs|exact zAe|exact zBI|exact zAv);exact rfl;exact rfl)|exact w1 rfl rfl|(apply gD;exact rfl;exact rfl;(intro hb);rotate_left;(intro hb);rotate_right)|(apply g1;exact rfl;exact rfl;(intro hb);rotate_left;(intro hb);rotate_right)|(refine w0' ?_)|(apply zAx;exact rfl;exact rfl;exact rfl;(with_reducible exact zAY);exact rfl;exact rfl;exact rfl;exact rfl)|exact zAK rfl|exact zAQ rfl|apply zAP|apply zAM|refine zA6 (by kernel_rfl) (by kernel_rfl) ?_|apply en_r|apply zAJ|exact res1 rfl
  all_goals try omega
  all_goals clear hs hi hk hN hC hW
  all_goals refine zCl ?_
  all_goals first | (simp_all [genE];done) | (simp_all [genE];omega)
end Go.Proofs.YtblomnkamngnbaaGreatDoor
namespace Go.Proofs.YtblomnkamngnbaaGreatDoor
open Go.Sx
attribute [local irreducible] zAT Program.underlying Ylds zBA alex zBc zBO awp zAj zBX RCall zA2 zBH zBQ zA8 zBT zBZ zBd zBr zBN
set_option maxHeartbeats 8000000 in
theorem zQs (L : List Nd) (n : Nat) (x y : Nd) (kx : Int) (pat : Bool) (nm cn : Bool) (hx : L[n]? = some x) (hy : L[n + 1]? = some y) (hkx : y.kind = kx) (hlen : n < 2000000) (h : x.kind = 8) (hp : patK x.kind = pat)
    (hs : zAj Tryz.prog 82 [i64 x.kind] (i64 1)) (hi : zAj Tryz.prog 46 [i64 x.kind] (bl pat)) (hk : zAj Tryz.prog 83 [i64 x.kind,i64 x.kids] (bl true))
    (hN : zAj Tryz.prog 20 [str x.text] (bl nm)) (hC : zAj Tryz.prog 19 [str x.text] (bl cn)) (hW : zAj Tryz.prog 81 [i64 x.num] (i64 (W x.num))) :
    zAj Tryz.prog 45 [zAc L,i64 (n : Int),bl pat] (i64 (genE false false (some nm) pat true pat x (kx ≠ 5))):=by
  subst hkx
  have hl3 : n + 1 < L.length:=(List.getElem?_eq_some_iff.1 hy).1
  have hy3 : L[((n : Int) + 1).toNat]? = some y:=by rw [show ((n : Int) + 1).toNat = n + 1 by omega];exact hy
  by_cases h5 : y.kind = 5 <;> cases pat
  all_goals first
    | (exfalso;rw [h] at hp;revert hp;decide)
    | skip
  all_goals
    refine zAd Tryz.func45 rfl Tryz.ntmps45 Tryz.results45 rfl ?_
    intro wb St0
    repeat' first | apply en_n|apply zAH|apply zAB|apply zAF|apply w0|(apply kUd (hd:=rfl);exact rfl;exact rfl)|(apply k1ud (hd:=rfl);exact rfl;exact rfl)|(apply k0ud (hd:=rfl);exact rfl;exact rfl)|(apply kU (hd:=rfl);exact rfl;exact rfl)|(apply k1u (hd:=rfl);exact rfl;exact rfl)|(apply k0u (hd:=rfl);exact rfl;exact rfl)|(apply zBn;exact rfl;exact rfl;first|assumption|omega)|(apply zBD;exact rfl;exact rfl;first|assumption|omega)|(apply zA9;exact rfl;exact rfl;first|assumption|omega)|(apply zB4;exact rfl;exact rfl;first|assumption|omega)|(apply zBS;exact rfl;exact rfl;first|assumption|omega)|(apply zFM;exact rfl;exact rfl;with_reducible exact zF8)|(refine zAV zC2 hs (zAX rfl zAG))|(refine zAV zD1 hk (zAX rfl (zAX rfl zAG)))|(refine zAV zCv hi (zAX rfl zAG))|(refine zAV zGU hN (zAX rfl zAG))|(apply aJ (hd:=rfl);(first|exact zAk rfl|exact Co_bb rfl rfl rfl|exact Co_nn rfl);exact rfl;(with_reducible exact zAW);assumption;omega;exact fun _=>rfl)|(apply zA4 (hd:=rfl) (hro:=rfl);(with_reducible exact zAp))|apply ay (hd:=rfl)|exact zAE rfl|exact zAC rfl|(apply zAy;exact rfl;(with_reducible exact fn_0))|(apply zAg;exact rfl;(with_reducible exact zAe))|(apply zAf;exact rfl;(with_reducible exact zAY);exact rfl)|exact zD6 rfl rfl|exact zBC rfl rfl|exact zBo rfl|exact zAi rfl rfl|exact zAh rfl rfl|(apply zAR;exact rfl;(with_reducible first|exact fn_0|exact fn_1|exact fn_2|exact fn_3))|(apply zAU;exact rfl;(with_reducible first|exact zAs|exact zAe|exact zBI|exact zAv);exact rfl;exact rfl)|exact w1 rfl rfl|(apply gD;exact rfl;exact rfl;(intro hb);rotate_left;(intro hb);rotate_right)|(apply g1;exact rfl;exact rfl;(intro hb);rotate_left;(intro hb);rotate_right)|(refine w0' ?_)|(apply zAx;exact rfl;exact rfl;exact rfl;(with_reducible exact zAY);exact rfl;exact rfl;exact rfl;exact rfl)|exact zAK rfl|exact zAQ rfl|apply zAP|apply zAM|refine zA6 (by kernel_rfl) (by kernel_rfl) ?_|apply en_r|apply zAJ|exact res1 rfl
  all_goals try omega
  all_goals clear hs hi hk hN hC hW
  all_goals refine zCl ?_
  all_goals first | (simp_all [genE];done) | (simp_all [genE];omega)
set_option maxHeartbeats 8000000 in
theorem zQr (L : List Nd) (n : Nat) (x y : Nd) (kx : Int) (pat : Bool) (nm cn : Bool) (hx : L[n]? = some x) (hlen : n < 2000000) (h : x.kind = 4 ∨ x.kind = 24) (hp : patK x.kind = pat)
    (hs : zAj Tryz.prog 82 [i64 x.kind] (i64 2)) (hi : zAj Tryz.prog 46 [i64 x.kind] (bl pat)) (hk : zAj Tryz.prog 83 [i64 x.kind,i64 x.kids] (bl true))
    (hN : zAj Tryz.prog 20 [str x.text] (bl nm)) (hC : zAj Tryz.prog 19 [str x.text] (bl cn)) (hW : zAj Tryz.prog 81 [i64 x.num] (i64 (W x.num))) :
    zAj Tryz.prog 45 [zAc L,i64 (n : Int),bl pat] (i64 (genE false false (some cn) pat true pat x (False))):=by
  cases pat
  all_goals
    refine zAd Tryz.func45 rfl Tryz.ntmps45 Tryz.results45 rfl ?_
    intro wb St0
    repeat' first | apply en_n|apply zAH|apply zAB|apply zAF|apply w0|(apply kUd (hd:=rfl);exact rfl;exact rfl)|(apply k1ud (hd:=rfl);exact rfl;exact rfl)|(apply k0ud (hd:=rfl);exact rfl;exact rfl)|(apply k1u (hd:=rfl);exact rfl;exact rfl)|(apply zBn;exact rfl;exact rfl;first|assumption|omega)|(apply zBD;exact rfl;exact rfl;first|assumption|omega)|(apply zA9;exact rfl;exact rfl;first|assumption|omega)|(apply zFM;exact rfl;exact rfl;with_reducible exact zF8)|(refine zAV zC2 hs (zAX rfl zAG))|(refine zAV zD1 hk (zAX rfl (zAX rfl zAG)))|(refine zAV zCv hi (zAX rfl zAG))|(refine zAV zHZ hC (zAX rfl zAG))|(apply aJ (hd:=rfl);(first|exact zAk rfl|exact Co_bb rfl rfl rfl|exact Co_nn rfl);exact rfl;(with_reducible exact zAW);assumption;omega;exact fun _=>rfl)|(apply zA4 (hd:=rfl) (hro:=rfl);(with_reducible exact zAp))|apply ay (hd:=rfl)|exact zAE rfl|exact zAC rfl|(apply zAf;exact rfl;(with_reducible exact zAY);exact rfl)|exact zD6 rfl rfl|exact zBo rfl|exact zAi rfl rfl|exact zAh rfl rfl|(apply zAR;exact rfl;(with_reducible first|exact fn_0|exact fn_1|exact fn_2|exact fn_3))|(apply zAU;exact rfl;(with_reducible first|exact zAs|exact zAe|exact zBI|exact zAv);exact rfl;exact rfl)|exact w1 rfl rfl|(apply gD;exact rfl;exact rfl;(intro hb);rotate_left;(intro hb);rotate_right)|(refine w0' ?_)|(apply zAx;exact rfl;exact rfl;exact rfl;(with_reducible exact zAY);exact rfl;exact rfl;exact rfl;exact rfl)|exact zAK rfl|exact zAQ rfl|(apply zCZ;exact rfl;(intro hb);rotate_left;(intro hb);rotate_right)|apply zAP|apply zAM|refine zA6 (by kernel_rfl) (by kernel_rfl) ?_|apply en_r|apply zAJ|exact res1 rfl
  all_goals try omega
  all_goals clear hs hi hk hN hC hW
  all_goals refine zCl ?_
  all_goals first | (simp_all [genE];done) | (simp_all [genE];omega)
set_option maxHeartbeats 8000000 in
theorem zQq (L : List Nd) (n : Nat) (x y : Nd) (kx : Int) (pat : Bool) (nm cn : Bool) (hx : L[n]? = some x) (hlen : n < 2000000) (h : x.kind = 2) (hp : patK x.kind = pat)
    (hs : zAj Tryz.prog 82 [i64 x.kind] (i64 3)) (hi : zAj Tryz.prog 46 [i64 x.kind] (bl pat)) (hk : zAj Tryz.prog 83 [i64 x.kind,i64 x.kids] (bl true))
    (hN : zAj Tryz.prog 20 [str x.text] (bl nm)) (hC : zAj Tryz.prog 19 [str x.text] (bl cn)) (hW : zAj Tryz.prog 81 [i64 x.num] (i64 (W x.num))) :
    zAj Tryz.prog 45 [zAc L,i64 (n : Int),bl pat] (i64 (genE false true none pat true pat x (False))):=by
  obtain rfl : pat = false:=by rw [← hp];unfold patK;exact decide_eq_false (by omega)
  all_goals
    refine zAd Tryz.func45 rfl Tryz.ntmps45 Tryz.results45 rfl ?_
    intro wb St0
    repeat' first | apply en_n|apply zAH|apply zAB|apply zAF|apply w0|(apply kUd (hd:=rfl);exact rfl;exact rfl)|(apply k1ud (hd:=rfl);exact rfl;exact rfl)|(apply k0ud (hd:=rfl);exact rfl;exact rfl)|(apply k1u (hd:=rfl);exact rfl;exact rfl)|(apply zBn;exact rfl;exact rfl;first|assumption|omega)|(apply zBD;exact rfl;exact rfl;first|assumption|omega)|(apply zA9;exact rfl;exact rfl;first|assumption|omega)|(apply zDU;exact rfl;with_reducible exact ustr)|(apply zFM;exact rfl;exact rfl;with_reducible exact zF8)|(refine zAV zC2 hs (zAX rfl zAG))|(refine zAV zD1 hk (zAX rfl (zAX rfl zAG)))|(refine zAV zCv hi (zAX rfl zAG))|(apply aJ (hd:=rfl);(first|exact zAk rfl|exact Co_bb rfl rfl rfl|exact Co_nn rfl);exact rfl;(with_reducible exact zAW);assumption;omega;exact fun _=>rfl)|(apply zA4 (hd:=rfl) (hro:=rfl);(with_reducible exact zAp))|apply ay (hd:=rfl)|exact zAE rfl|exact zAC rfl|(apply zAf;exact rfl;(with_reducible exact zAY);exact rfl)|exact zEk rfl rfl|exact zD6 rfl rfl|exact zBo rfl|exact zAi rfl rfl|exact zAh rfl rfl|(apply zAR;exact rfl;(with_reducible first|exact fn_0|exact fn_1|exact fn_2|exact fn_3))|(apply zAU;exact rfl;(with_reducible first|exact zAs|exact zAe|exact zBI|exact zAv);exact rfl;exact rfl)|exact w1 rfl rfl|(apply gD;exact rfl;exact rfl;(intro hb);rotate_left;(intro hb);rotate_right)|(refine w0' ?_)|(apply zAx;exact rfl;exact rfl;exact rfl;(with_reducible exact zAY);exact rfl;exact rfl;exact rfl;exact rfl)|(apply zAz;exact rfl;(intro hb);rotate_left;(intro hb);rotate_right)|exact zAK rfl|exact zAQ rfl|apply zAP|apply zAM|refine zA6 (by kernel_rfl) (by kernel_rfl) ?_|apply en_r|apply zAJ|exact res1 rfl
  all_goals try omega
  all_goals clear hs hi hk hN hC hW
  all_goals refine zCl ?_
  all_goals first | (simp_all [genE];done) | (simp_all [genE];omega)
end Go.Proofs.YtblomnkamngnbaaGreatDoor
namespace Go.Proofs.YtblomnkamngnbaaGreatDoor
open Go.Sx
attribute [local irreducible] zAT Program.underlying Ylds zBA alex zBc zBO awp zAj zBX RCall zA2 zBH zBQ zA8 zBT zBZ zBd zBr zBN
theorem zOp (L : List Nd) (n : Nat) (x y : Nd) (kx : Int) (pat : Bool) (hx : L[n]? = some x) (hy : x.kind = 8 → L[n + 1]? = some y ∧ y.kind = kx) (hlen : n < 2000000) (ht : x.text.length ≤ 1000000)
    (hok : okK x.kind = true) (hp : patK x.kind = pat) (hc : cntK x.kind x.kids = true) :
    zAj Tryz.prog 45 [zAc L,i64 (n : Int),bl pat] (i64 (genE (numK x.kind) (decide (x.kind = 2)) (if namK x.kind = true then some (zD9 x.text) else if x.kind = 4 ∨ x.kind = 24 then some (conF x.text) else none) pat true pat x (x.kind = 8 ∧ kx ≠ 5))):=by
  have hs:=zHw x.kind
  have hi:=zGs x.kind
  have hk:=zKc x.kind x.kids
  have hN:=zKe x.text ht
  have hC:=zJe x.text ht
  have hW:=zMf x.num
  rw [hp] at hi
  rw [hc] at hk
  have hcl : (x.kind = 1 ∨ x.kind = 23) ∨ (x.kind = 6 ∨ x.kind = 9 ∨ x.kind = 10 ∨ x.kind = 11 ∨ x.kind = 21) ∨ (x.kind = 3 ∨ x.kind = 5 ∨ x.kind = 7 ∨ x.kind = 12 ∨ x.kind = 22) ∨ x.kind = 8 ∨ (x.kind = 4 ∨ x.kind = 24) ∨ x.kind = 2:=by
    have:=zGI hok;omega
  have e8 : ∀ {a b : Bool} {m : Option Bool} {p q : Prop} [Decidable p] [Decidable q],(p ↔ q) → genE a b m pat true pat x p = genE a b m pat true pat x q:=fun {a b m p q _ _} h=>by
    unfold genE;simp only [h]
  have key : ∀ (nu b2 : Bool) (m : Option Bool),numK x.kind = nu → decide (x.kind = 2) = b2 → (if namK x.kind = true then some (zD9 x.text) else if x.kind = 4 ∨ x.kind = 24 then some (conF x.text) else none) = m →
      (i64 (genE (numK x.kind) (decide (x.kind = 2)) (if namK x.kind = true then some (zD9 x.text) else if x.kind = 4 ∨ x.kind = 24 then some (conF x.text) else none) pat true pat x (x.kind = 8 ∧ kx ≠ 5))) = i64 (genE nu b2 m pat true pat x (x.kind = 8 ∧ kx ≠ 5)):=fun nu b2 m h2 h3 h4=>by rw [h2,h3,h4]
  have nk : ∀ {p : Prop},(namK x.kind = true ↔ (x.kind = 3 ∨ x.kind = 5 ∨ x.kind = 7 ∨ x.kind = 8 ∨ x.kind = 12 ∨ x.kind = 22)):=fun {p}=>by rw [namK,decide_eq_true_eq]
  have nk:=@nk True
  rcases hcl with h | h | h | h | h | h
  · have es : zEm x.kind = 0:=by rw [zEm,if_pos (by omega)]
    rw [key true false none (by rw [numK];exact decide_eq_true (by omega)) (decide_eq_false (by omega)) (by rw [if_neg (by rw [nk];omega),if_neg (by omega)]),e8 (q:=False) ⟨fun c=>by omega,False.elim⟩]
    rw [es] at hs
    exact zQv L n x y kx pat _ _ hx hlen h hp hs hi hk hN hC hW
  · have es : zEm x.kind = 0:=by rw [zEm,if_pos (by omega)]
    rw [key false false none (by rw [numK];exact decide_eq_false (by omega)) (decide_eq_false (by omega)) (by rw [if_neg (by rw [nk];omega),if_neg (by omega)]),e8 (q:=False) ⟨fun c=>by omega,False.elim⟩]
    rw [es] at hs
    exact zQu L n x y kx pat _ _ hx hlen h hp hs hi hk hN hC hW
  · have es : zEm x.kind = 1:=by rw [zEm,if_neg (by omega),if_pos (nk.2 (by omega))]
    rw [key false false (some (zD9 x.text)) (by rw [numK];exact decide_eq_false (by omega)) (decide_eq_false (by omega)) (by rw [if_pos (nk.2 (by omega))]),e8 (q:=False) ⟨fun c=>by omega,False.elim⟩]
    rw [es] at hs
    exact zQt L n x y kx pat _ _ hx hlen h hp hs hi hk hN hC hW
  · have es : zEm x.kind = 1:=by rw [zEm,if_neg (by omega),if_pos (nk.2 (by omega))]
    rw [key false false (some (zD9 x.text)) (by rw [numK];exact decide_eq_false (by omega)) (decide_eq_false (by omega)) (by rw [if_pos (nk.2 (by omega))]),e8 (q:=kx ≠ 5) ⟨fun c=>c.2,fun c=>⟨h,c⟩⟩]
    rw [es] at hs
    obtain ⟨hy1,hy2⟩:=hy h
    exact zQs L n x y kx pat _ _ hx hy1 hy2 hlen h hp hs hi hk hN hC hW
  · have es : zEm x.kind = 2:=by rw [zEm,if_neg (by omega),if_neg (by rw [nk];omega),if_pos h]
    rw [key false false (some (conF x.text)) (by rw [numK];exact decide_eq_false (by omega)) (decide_eq_false (by omega)) (by rw [if_neg (by rw [nk];omega),if_pos h]),e8 (q:=False) ⟨fun c=>by omega,False.elim⟩]
    rw [es] at hs
    exact zQr L n x y kx pat _ _ hx hlen h hp hs hi hk hN hC hW
  · have es : zEm x.kind = 3:=by rw [zEm,if_neg (by omega),if_neg (by rw [nk];omega),if_neg (by omega),if_pos h]
    rw [key false true none (by rw [numK];exact decide_eq_false (by omega)) (decide_eq_true h) (by rw [if_neg (by rw [nk];omega),if_neg (by omega)]),e8 (q:=False) ⟨fun c=>by omega,False.elim⟩]
    rw [es] at hs
    exact zQq L n x y kx pat _ _ hx hlen h hp hs hi hk hN hC hW
set_option maxHeartbeats 4000000 in
theorem zKb (L : List Nd) (n : Nat) (x y : Nd) (kx : Int) (pat : Bool) (hx : L[n]? = some x) (hy : x.kind = 8 → cntK x.kind x.kids = true → L[n + 1]? = some y ∧ y.kind = kx) (hlen : n < 2000000) (ht : x.text.length ≤ 1000000) :
    zAj Tryz.prog 45 [zAc L,i64 (n : Int),bl pat] (i64 (zD8 x kx pat)):=by
  by_cases hok : okK x.kind = true
  · by_cases hpc : patK x.kind = pat ∧ cntK x.kind x.kids = true
    · rw [zPS x kx pat hok,hpc.1,hpc.2]
      exact zOp L n x y kx pat hx (fun h8=>hy h8 hpc.2) hlen ht hok hpc.1 hpc.2
    · have e : zD8 x kx pat = 61:=by
        rw [zD8,if_pos]
        by_cases c : patK x.kind = pat
        · exact .inr (.inr (Bool.eq_false_iff.2 fun d=>hpc ⟨c,d⟩))
        · exact .inr (.inl c)
      rw [e]
      have hs:=zHw x.kind
      have hi:=zGs x.kind
      have hk:=zKc x.kind x.kids
      have hs0 : 0 ≤ zEm x.kind:=by
        rcases zGI hok with h | h | h | h | h | h | h | h | h | h | h | h | h | h | h | h <;> rw [h] <;> decide
      generalize zEm x.kind = s at *
      generalize patK x.kind = kp at *
      generalize cntK x.kind x.kids = r at *
      clear hy
      cases kp <;> cases pat <;> cases r
      all_goals first
        | exact absurd ⟨rfl,rfl⟩ hpc
        | skip
      all_goals
        refine zAd Tryz.func45 rfl Tryz.ntmps45 Tryz.results45 rfl ?_
        intro wb St0
        repeat' first | apply en_n|apply zAH|apply zAB|apply zAF|apply w0|(apply kUd (hd:=rfl);exact rfl;exact rfl)|(apply k0ud (hd:=rfl);exact rfl;exact rfl)|(apply k0u (hd:=rfl);exact rfl;exact rfl)|(apply zBn;exact rfl;exact rfl;(first|assumption|omega))|(apply zFM;exact rfl;exact rfl;with_reducible exact zF8)|(refine zAV zC2 hs (zAX rfl zAG))|(refine zAV zD1 hk (zAX rfl (zAX rfl zAG)))|(refine zAV zCv hi (zAX rfl zAG))|(apply aJ (hd:=rfl);(first|exact zAk rfl|exact Co_bb rfl rfl rfl|exact Co_nn rfl);exact rfl;(with_reducible exact zAW);assumption;omega;exact fun _=>rfl)|(apply zA4 (hd:=rfl) (hro:=rfl);(with_reducible exact zAp))|apply ay (hd:=rfl)|exact zAE rfl|exact zAC rfl|(apply zAf;exact rfl;(with_reducible exact zAY);exact rfl)|exact zCz rfl rfl|exact zBo rfl|exact zAi rfl rfl|exact zAh rfl rfl|(apply zAR;exact rfl;(with_reducible first|exact fn_0|exact fn_3))|(apply zAU;exact rfl;(with_reducible first|exact zAs|exact zAe);exact rfl;exact rfl)|exact w1 rfl rfl|(apply gD;exact rfl;exact rfl;(intro hb);rotate_left;(intro hb);rotate_right)|(refine w0' ?_)|(apply zAx;exact rfl;exact rfl;exact rfl;(with_reducible exact zAY);exact rfl;exact rfl;exact rfl;exact rfl)|exact zAK rfl|apply zAM|refine zA6 (by kernel_rfl) (by kernel_rfl) ?_|apply en_r|apply zAJ|exact res1 rfl
      all_goals rfl
  · have e : zD8 x kx pat = 61:=by rw [zD8,if_pos (.inl (by simpa using hok))]
    rw [e]
    have hs:=zHw x.kind
    have hs0 : zEm x.kind = -1:=by
      rcases zH7 x.kind with h | ⟨_,h⟩
      · exact absurd (by rcases h with h | h | h | h | h | h | h | h | h | h | h | h | h | h | h | h <;> rw [h] <;> rfl) hok
      · unfold zEm namK
        rw [if_neg (by omega),if_neg (by rw [decide_eq_true_eq];omega),if_neg (by omega),if_neg (by omega)]
    rw [hs0] at hs
    clear hy
    refine zAd Tryz.func45 rfl Tryz.ntmps45 Tryz.results45 rfl ?_
    intro wb St0
    by_cases hn : x.kind = 1
    · skip
      repeat' first | apply en_n|apply zAH|apply zAB|apply zAF|apply w0|(apply kUd (hd:=rfl);exact rfl;exact rfl)|(apply k0ud (hd:=rfl);exact rfl;exact rfl)|(apply k0u (hd:=rfl);exact rfl;exact rfl)|(apply zA5;exact rfl;exact rfl;first|assumption|omega)|(apply zBD;exact rfl;exact rfl;first|assumption|omega)|(refine zAV zC2 hs (zAX rfl zAG))|(apply aJ (hd:=rfl);(first|exact zAk rfl|exact Co_bb rfl rfl rfl|exact Co_nn rfl);exact rfl;(with_reducible exact zAW);assumption;omega;exact fun _=>rfl)|(apply zA4 (hd:=rfl) (hro:=rfl);(with_reducible exact zAp))|apply ay (hd:=rfl)|exact zAE rfl|exact zAC rfl|(apply zAf;exact rfl;(with_reducible exact zAY);exact rfl)|exact zAi rfl rfl|(apply zAR;exact rfl;(with_reducible exact fn_0))|(apply zAU;exact rfl;(with_reducible exact zAe);exact rfl;exact rfl)|(refine w0' ?_)|(apply zAx;exact rfl;exact rfl;exact rfl;(with_reducible exact zAY);exact rfl;exact rfl;exact rfl;exact rfl)|exact zAK rfl|apply zAM|refine zA6 (by kernel_rfl) (by kernel_rfl) ?_|apply en_r|apply zAJ|exact res1 rfl
      all_goals rfl
    · by_cases hn2 : x.kind = 23
      · skip
        repeat' first | apply en_n|apply zAH|apply zAB|apply zAF|apply w0|(apply kUd (hd:=rfl);exact rfl;exact rfl)|(apply k0ud (hd:=rfl);exact rfl;exact rfl)|(apply zA5;exact rfl;exact rfl;first|assumption|omega)|(apply zBD;exact rfl;exact rfl;first|assumption|omega)|(apply zA9;exact rfl;exact rfl;first|assumption|omega)|(refine zAV zC2 hs (zAX rfl zAG))|(apply aJ (hd:=rfl);(first|exact zAk rfl|exact Co_bb rfl rfl rfl|exact Co_nn rfl);exact rfl;(with_reducible exact zAW);assumption;omega;exact fun _=>rfl)|(apply zA4 (hd:=rfl) (hro:=rfl);(with_reducible exact zAp))|apply ay (hd:=rfl)|exact zAE rfl|exact zAC rfl|(apply zAf;exact rfl;(with_reducible exact zAY);exact rfl)|exact zAi rfl rfl|exact zAh rfl rfl|(apply zAR;exact rfl;(with_reducible exact fn_0))|(apply zAU;exact rfl;(with_reducible exact zAe);exact rfl;exact rfl)|exact w1 rfl rfl|(refine w0' ?_)|(apply zAx;exact rfl;exact rfl;exact rfl;(with_reducible exact zAY);exact rfl;exact rfl;exact rfl;exact rfl)|exact zAK rfl|apply zAM|refine zA6 (by kernel_rfl) (by kernel_rfl) ?_|apply en_r|apply zAJ|exact res1 rfl
        all_goals rfl
      · skip
        repeat' first | apply en_n|apply zAH|apply zAB|apply zAF|apply w0|(apply kUd (hd:=rfl);exact rfl;exact rfl)|(apply k0ud (hd:=rfl);exact rfl;exact rfl)|(apply zA5;exact rfl;exact rfl;first|assumption|omega)|(apply zA9;exact rfl;exact rfl;first|assumption|omega)|(refine zAV zC2 hs (zAX rfl zAG))|(apply aJ (hd:=rfl);(first|exact zAk rfl|exact Co_bb rfl rfl rfl|exact Co_nn rfl);exact rfl;(with_reducible exact zAW);assumption;omega;exact fun _=>rfl)|(apply zA4 (hd:=rfl) (hro:=rfl);(with_reducible exact zAp))|apply ay (hd:=rfl)|exact zAE rfl|exact zAC rfl|(apply zAf;exact rfl;(with_reducible exact zAY);exact rfl)|exact zAi rfl rfl|exact zAh rfl rfl|(apply zAR;exact rfl;(with_reducible exact fn_0))|(apply zAU;exact rfl;(with_reducible exact zAe);exact rfl;exact rfl)|exact w1 rfl rfl|(refine w0' ?_)|(apply zAx;exact rfl;exact rfl;exact rfl;(with_reducible exact zAY);exact rfl;exact rfl;exact rfl;exact rfl)|exact zAK rfl|apply zAM|refine zA6 (by kernel_rfl) (by kernel_rfl) ?_|apply en_r|apply zAJ|exact res1 rfl
        all_goals rfl
end Go.Proofs.YtblomnkamngnbaaGreatDoor
namespace Go.Proofs.YtblomnkamngnbaaGreatDoor
open Go.Sx
def Txs (L : List Nd) : Prop:=∀ x ∈ L,x.text.length ≤ 1000000
attribute [local irreducible] zAT Program.underlying Ylds zBA alex zBc zBO awp zAj zBX RCall zA2 zBH zBQ zA8 zBT zBZ zBd zBr zBN
set_option maxHeartbeats 4000000 in
theorem zIx (L : List Nd) (hL : L.length ≤ 1000000) (hT : Txs L) : ∀ (m n : Nat) (t : Tr) (pat : Bool),t.sz ≤ m → At L n t → zAj Tryz.prog 25 [zAc L,i64 (n : Int),bl pat] (i64 (t.werr pat))
  | 0,n,t,pat,hm,_=>by have:=zBR t;omega
  | m + 1,n,.mk x ks,pat,hm,h=>by
    have hx:=h.here
    have hlen : n < L.length:=(List.getElem?_eq_some_iff.1 hx).1
    have hsz : (Tr.mk x ks).sz = szL ks + 1:=by rw [Tr.sz]
    have hnd : zAj Tryz.prog 45 [zAc L,i64 (n : Int),bl pat] (i64 (zD8 x (Tr.kind1 (.mk x ks)) pat)):=by
      by_cases h8 : x.kind = 8 ∧ cntK x.kind x.kids = true
      · obtain ⟨y,hy1,hy2⟩:=zRy h h8.1 h8.2
        exact zKb L n x y _ pat hx (fun _ _=>⟨hy1,hy2⟩) (by omega) (hT x (List.mem_of_getElem? hx))
      · exact zKb L n x x _ pat hx (fun a b=>absurd ⟨a,b⟩ h8) (by omega) (hT x (List.mem_of_getElem? hx))
    have hkid:=zEo L (n : Int) (by omega)
    have hkl:=h.kids_len
    have hkg : ∀ i,i < ks.length → (zBV L (n : Int))[i]? = some ((kidAt n ks i : Nat) : Int):=fun i hi=>h.kids_get hi
    have hkat : ∀ i k,ks[i]? = some k → At L (kidAt n ks i) k:=fun i k hik=>h.kid hik
    rw [Tr.werr]
    generalize zD8 x (Tr.kind1 (.mk x ks)) pat = e at *
    generalize zBV L (n : Int) = KK at *
    refine zAd Tryz.func25 rfl Tryz.ntmps25 Tryz.results25 rfl ?_
    intro wb St0
    by_cases he : e = 0
    · subst he
      rw [if_neg (by decide)]
      repeat' first | apply en_n|apply zAH|apply zAB|apply zAF|apply w0|(apply zBS;exact rfl;exact rfl;first|assumption|omega)|(refine zAV zKy hnd (zAX rfl (zAX rfl (zAX rfl zAG))))|(refine zAV zEr hkid (zAX rfl (zAX rfl zAG)))|apply ay (hd:=rfl)|exact zAE rfl|exact zAC rfl|exact zAQ rfl|apply zAI|apply zAP
      refine zAr (α:=Nat) (fun i=>i ≤ ks.length ∧ zDX (decide (x.kind = 10)) pat ks 0 = zDX (decide (x.kind = 10)) pat (ks.drop i) i) (fun i=>[(0,.d (zAc L)),(1,.d (i64 (n : Int))),(2,.d (bl pat)),(8,.d (zBj KK)),(9,.d (i64 (i : Int)))]) (fun _=>[]) (fun i=>ks.length - i) 0 ⟨Nat.zero_le _,rfl⟩
        (zAO (zAA rfl (zAA rfl (zAA rfl (zAA rfl (Le_d rfl rfl zAa))))) zAN rfl rfl) ?_
      rintro i ⟨hi1,hi2⟩
      rcases Nat.lt_or_ge i ks.length with hlt | hge
      · obtain ⟨k,hk⟩ : ∃ k,ks[i]? = some k:=⟨_,List.getElem?_eq_getElem hlt⟩
        have hki:=hkg i hlt
        have hks:=zCi (List.mem_of_getElem? hk)
        have ih:=zIx L hL hT m (kidAt n ks i) k (pat || (decide (x.kind = 10) && decide (i % 2 = 1))) (by omega) (hkat i k hk)
        rw [zIn hk] at hi2
        have hli : (i : Int) < (KK.length : Int):=by omega
        have hodd : (i : Int).tmod 2 = ((i % 2 : Nat) : Int):=rfl
        have hib : i ≤ 1000000:=by have:=zDx ks;have:=h.len;omega
        generalize hq : (pat || (decide (x.kind = 10) && decide (i % 2 = 1))) = q at *
        have hq2 : (pat = true ∧ q = true) ∨ (pat = false ∧ x.kind = 10 ∧ (i : Int).tmod 2 = 1 ∧ q = true) ∨ (pat = false ∧ x.kind = 10 ∧ ¬ (i : Int).tmod 2 = 1 ∧ q = false) ∨ (pat = false ∧ ¬ x.kind = 10 ∧ q = false):=by
          rw [hodd]
          cases pat with
          | true=>exact .inl ⟨rfl,by rw [← hq];simp⟩
          | false =>
            by_cases c1 : x.kind = 10
            · by_cases c2 : i % 2 = 1
              · exact .inr (.inl ⟨rfl,c1,by omega,by rw [← hq];simp [c1,c2]⟩)
              · exact .inr (.inr (.inl ⟨rfl,c1,by omega,by rw [← hq];simp [c2]⟩))
            · exact .inr (.inr (.inr ⟨rfl,c1,by rw [← hq];simp [c1]⟩))
        have hkl2 : kidAt n ks i < L.length:=by have:=(hkat i k hk).len;have:=zBR k;omega
        generalize kidAt n ks i = p at *
        clear hq hodd hkg hkat hnd hkid h
        by_cases he2 : k.werr q = 0
        · rw [if_neg (by rw [he2];decide)] at hi2
          rw [he2] at ih
          clear he2
          rcases hq2 with ⟨rfl,rfl⟩ | ⟨rfl,c1,c2,rfl⟩ | ⟨rfl,c1,c2,rfl⟩ | ⟨rfl,c1,rfl⟩
          all_goals
            repeat' first | apply en_n|apply zAH|apply zAB|apply zAF|apply w0|(apply kUd (hd:=rfl);exact rfl;exact rfl)|(apply k1ud (hd:=rfl);exact rfl;exact rfl)|(apply k0ud (hd:=rfl);exact rfl;exact rfl)|(apply zA5;exact rfl;exact rfl;first|assumption|omega)|(apply zBD;exact rfl;exact rfl;first|assumption|omega)|(apply zA9;exact rfl;exact rfl;first|assumption|omega)|(apply zBS;exact rfl;exact rfl;first|assumption|omega)|(apply zMH;exact rfl;exact rfl;exact (by decide))|(refine zAV zEa ih (zAX rfl (zAX rfl (zAX rfl zAG))))|(apply aJ (hd:=rfl);(first|exact zAk rfl|exact Co_bb rfl rfl rfl|exact Co_nn rfl);exact rfl;(with_reducible first|exact zAW|exact zA7);assumption;omega;exact fun _=>rfl)|apply ay (hd:=rfl)|exact zAE rfl|exact zAC rfl|(apply zAy;exact rfl;(with_reducible exact fn_0))|(apply zAg;exact rfl;(with_reducible first|exact zAs|exact zAe))|(apply zAl;exact rfl;(with_reducible exact zBt))|exact zBC rfl rfl|exact zAi rfl rfl|exact zAh rfl rfl|exact w1 rfl rfl|exact zAK rfl|exact zAQ rfl|apply zAI|apply zAP|refine zA6 (by kernel_rfl) (by kernel_rfl) ?_|apply eb_n
          all_goals try omega
          all_goals exact ⟨i + 1,⟨by omega,hi2⟩,by omega,zAO (zAA rfl (zAA rfl (zAA rfl (zAA rfl (zAA rfl zAa))))) zAN rfl rfl⟩
        · rw [if_pos he2] at hi2
          rw [hi2]
          generalize k.werr q = e2 at *
          rcases hq2 with ⟨rfl,rfl⟩ | ⟨rfl,c1,c2,rfl⟩ | ⟨rfl,c1,c2,rfl⟩ | ⟨rfl,c1,rfl⟩
          all_goals
            repeat' first | apply en_n|apply zAH|apply zAB|apply zAF|apply w0|(apply kUd (hd:=rfl);exact rfl;exact rfl)|(apply k1ud (hd:=rfl);exact rfl;exact rfl)|(apply k0ud (hd:=rfl);exact rfl;exact rfl)|(apply zA5;exact rfl;exact rfl;first|assumption|omega)|(apply zBD;exact rfl;exact rfl;first|assumption|omega)|(apply zA9;exact rfl;exact rfl;first|assumption|omega)|(apply zB4;exact rfl;exact rfl;first|assumption|omega)|(apply zMH;exact rfl;exact rfl;exact (by decide))|(refine zAV zEa ih (zAX rfl (zAX rfl (zAX rfl zAG))))|(apply aJ (hd:=rfl);(first|exact zAk rfl|exact Co_bb rfl rfl rfl|exact Co_nn rfl);exact rfl;(with_reducible first|exact zAW|exact zA7);assumption;omega;exact fun _=>rfl)|apply ay (hd:=rfl)|exact zAE rfl|exact zAC rfl|(apply zAy;exact rfl;(with_reducible exact fn_0))|(apply zAg;exact rfl;(with_reducible first|exact zAs|exact zAe))|(apply zAl;exact rfl;(with_reducible exact zBt))|exact zAi rfl rfl|exact zAh rfl rfl|exact w1 rfl rfl|exact zAK rfl|apply zAI|apply zAP|apply zAM|refine zA6 (by kernel_rfl) (by kernel_rfl) ?_|apply en_r|apply eb_r|apply zAJ|exact res1 rfl
          all_goals try omega
          all_goals rfl
      · have hli : ¬ (i : Int) < (KK.length : Int):=by omega
        rw [List.drop_of_length_le hge,zDX] at hi2
        rw [hi2]
        skip
        repeat' first | apply en_n|apply zAH|apply zAB|apply zAF|apply w0|(apply zBn;exact rfl;exact rfl;first|assumption|omega)|apply ay (hd:=rfl)|exact zAE rfl|exact zAC rfl|(apply zAl;exact rfl;(with_reducible exact zBt))|exact zAQ rfl|apply zAM|apply zAt|apply en_e|apply eb_e|apply zAJ|exact res1 rfl
        all_goals rfl
    · rw [if_pos he]
      repeat' first | apply en_n|apply zAH|apply zAB|apply zAF|apply w0|(apply zB4;exact rfl;exact rfl;first|assumption|omega)|(refine zAV zKy hnd (zAX rfl (zAX rfl (zAX rfl zAG))))|apply ay (hd:=rfl)|exact zAE rfl|exact zAC rfl|exact zAK rfl|apply zAM|apply en_r|apply zAJ|exact res1 rfl
      all_goals rfl
theorem zGw : ∀ (ks : List Tr),zBJ (flL ks) = (ks.map fun k=>zBJ k.fl).flatten
  | []=>rfl
  | k :: r=>by
    rw [flL,List.map_cons,List.flatten_cons,← zGw r]
    unfold zBJ;rw [List.filterMap_append]
theorem zNl {x : Nd} {ks : List Tr} (hw : (Tr.mk x ks).werr true = 0) (hf : (Tr.mk x ks).wf) : (x.kind = 22 ∧ ks = [] ∧ zBJ (Tr.mk x ks).fl = [x.text]) ∨ (x.kind ≠ 22 ∧ zBJ (Tr.mk x ks).fl = (ks.map fun k=>zBJ k.fl).flatten):=by
  by_cases h : x.kind = 22
  · have h1:=(zCL (zC0 hw).1).2.2
    rw [h] at h1
    have h0 : x.kids = 0:=by simpa [cntK] using h1
    rw [Tr.wf] at hf
    have : ks = []:=List.eq_nil_of_length_eq_zero (by omega)
    subst this
    exact .inl ⟨h,rfl,by rw [Tr.fl,flL,zBJ];simp [h]⟩
  · refine .inr ⟨h,?_⟩
    rw [← zGw,Tr.fl]
    unfold zBJ
    rw [List.filterMap_cons]
    simp [h]
set_option maxHeartbeats 4000000 in
theorem zKd (L : List Nd) (hL : L.length ≤ 1000000) : ∀ (m n : Nat) (t : Tr),t.sz ≤ m → At L n t → t.werr true = 0 → zAj Tryz.prog 47 [zAc L,i64 (n : Int)] (strs (zBJ t.fl))
  | 0,n,t,hm,_,_=>by have:=zBR t;omega
  | m + 1,n,.mk x ks,hm,h,hw=>by
    have hx:=h.here
    have hlen : n < L.length:=(List.getElem?_eq_some_iff.1 hx).1
    have hsz : (Tr.mk x ks).sz = szL ks + 1:=by rw [Tr.sz]
    have hkid:=zEo L (n : Int) (by omega)
    have hkl:=h.kids_len
    have hkg : ∀ i,i < ks.length → (zBV L (n : Int))[i]? = some ((kidAt n ks i : Nat) : Int):=fun i hi=>h.kids_get hi
    have hkat : ∀ i k,ks[i]? = some k → At L (kidAt n ks i) k:=fun i k hik=>h.kid hik
    have hwk:=(zC0 hw).2
    generalize zBV L (n : Int) = KK at *
    refine zAd Tryz.func47 rfl Tryz.ntmps47 Tryz.results47 rfl ?_
    intro wb St0
    rcases zNl hw h.wf with ⟨h22,rfl,e⟩ | ⟨h22,e⟩
    · rw [e]
      clear hw hwk e
      repeat' first | apply en_n|apply zAH|apply zAB|apply zAF|apply w0|(apply zBD;exact rfl;exact rfl;first|assumption|omega)|(apply aJ (hd:=rfl);(first|exact zAk rfl|exact Co_bb rfl rfl rfl|exact Co_nn rfl);exact rfl;(with_reducible exact zAW);assumption;omega;exact fun _=>rfl)|apply ay (hd:=rfl)|exact zAE rfl|exact zAC rfl|(apply zAy;exact rfl;(with_reducible first|exact fn_0|exact fn_1))|(apply zAg;exact rfl;(with_reducible first|exact zAe|exact zAv))|exact zAb rfl|(apply zB8;(with_reducible first|exact zBz|exact zBz);(with_reducible first|exact zBU|exact zBU);(with_reducible first|exact zDe|exact zDe);exact rfl;exact rfl;(first|exact zAX rfl zAG|exact zCx rfl rfl rfl zAG|exact zDB rfl zAG);exact rfl)|exact zAK rfl|apply zAM|apply en_r|apply zAJ|exact res1 rfl
      all_goals rfl
    · rw [e]
      have hnl : ∀ i,((ks.take i).map fun k=>zBJ k.fl).flatten.length ≤ 1000000:=fun i=>by
        have h1 : ((ks.take i).map fun k=>zBJ k.fl).flatten = zBJ (flL (ks.take i)):=(zGw _).symm
        rw [h1]
        have h2:=zEW (flL (ks.take i))
        have h3 : (flL (ks.take i)).length ≤ (flL ks).length:=by
          conv=>rhs;rw [← List.take_append_drop i ks]
          rw [zFg,zFg,List.map_append,List.flatten_append,List.length_append];omega
        have h4:=zJ3 ks
        have:=h.len;omega
      clear hw e
      skip
      repeat' first | apply en_n|apply zAH|apply zAB|apply zAF|apply w0|(apply zA9;exact rfl;exact rfl;first|assumption|omega)|(apply zMG (hd:=rfl) (hro:=rfl);(with_reducible exact zBz);(with_reducible exact zBU);(with_reducible exact zDe);exact rfl)|(refine zAV zEr hkid (zAX rfl (zAX rfl zAG)))|(apply aJ (hd:=rfl);(first|exact zAk rfl|exact Co_bb rfl rfl rfl|exact Co_nn rfl);exact rfl;(with_reducible exact zAW);assumption;omega;exact fun _=>rfl)|apply ay (hd:=rfl)|exact zAE rfl|exact zAC rfl|(apply zAy;exact rfl;(with_reducible exact fn_0))|(apply zAg;exact rfl;(with_reducible exact zAe))|exact zAb rfl|exact zAm rfl|exact zAQ rfl|apply zAI|apply zAP
      refine zAr (α:=Nat) (fun i=>i ≤ ks.length) (fun i=>[(0,.d (zAc L)),(1,.d (i64 (n : Int))),(5,.buf 0 (((ks.take i).map fun k=>zBJ k.fl).flatten.map str).length),(6,.d (zBj KK)),(7,.d (i64 (i : Int)))]) (fun i=>[.buf false 9 1 (((ks.take i).map fun k=>zBJ k.fl).flatten.map str)]) (fun i=>ks.length - i) 0 (Nat.zero_le _)
        (zAO (zAA rfl (zAA rfl (zBq rfl rfl (zAA rfl (Le_d rfl rfl zAa))))) (zAu rfl rfl rfl zAN) rfl rfl) ?_
      intro i hi1
      have hn1:=hnl i
      rcases Nat.lt_or_ge i ks.length with hlt | hge
      · obtain ⟨k,hk⟩ : ∃ k,ks[i]? = some k:=⟨_,List.getElem?_eq_getElem hlt⟩
        have hki:=hkg i hlt
        have hks:=zCi (List.mem_of_getElem? hk)
        have ih:=zKd L hL m (kidAt n ks i) k (by omega) (hkat i k hk) (by simpa using zBY (j:=i) hwk hk)
        have hli : (i : Int) < (KK.length : Int):=by omega
        have hib : i ≤ 1000000:=by have:=zDx ks;have:=h.len;omega
        have hkn : (zBJ k.fl).length ≤ 1000000:=by have:=zEW k.fl;rw [Tr.fl_len] at this;have:=h.len;omega
        have e : ((ks.take (i + 1)).map fun k=>zBJ k.fl).flatten = ((ks.take i).map fun k=>zBJ k.fl).flatten ++ zBJ k.fl:=by
          rw [List.take_add_one,hk,Option.toList_some,List.map_append,List.flatten_append];simp
        generalize kidAt n ks i = p at *
        clear hkg hkat hkid h hnl hwk
        skip
        repeat' first | apply en_n|apply zAH|apply zAB|apply zAF|apply w0|(apply zA5;exact rfl;exact rfl;first|assumption|omega)|(apply aApp (id:=0) (hd:=rfl) (hro:=rfl);exact rfl;exact rfl;(first|exact zAk rfl|exact Co_bb rfl rfl rfl|exact Co_nn rfl);(first|exact rfl|exact (by simp));exact rfl;(with_reducible first|exact zBz|exact zBz);(with_reducible first|exact zBU|exact zBU);(with_reducible first|exact zHm|exact zHm);(with_reducible first|exact zF1|exact zF1);(first|exact zCC (fun _=>rfl)|exact zCA rfl))|(refine zAV zKz ih (zAX rfl (zAX rfl zAG)))|(apply aJ (hd:=rfl);(first|exact zAk rfl|exact Co_bb rfl rfl rfl|exact Co_nn rfl);exact rfl;(with_reducible exact zA7);assumption;omega;exact fun _=>rfl)|apply ay (hd:=rfl)|exact zAE rfl|exact zAC rfl|(apply zAg;exact rfl;(with_reducible exact zAs))|(apply zAl;exact rfl;(with_reducible exact zBt))|exact zBC rfl rfl|exact zAw rfl|exact zAm rfl|exact zAK rfl|apply zAI|apply zAP|apply eb_n
        all_goals first | omega | skip
        · simp only [List.length_map];omega
        · exact ⟨i + 1,by omega,by omega,zAO (zAA rfl (zAA rfl (zBq rfl (by rw [e];simp) (zAA rfl (zAA rfl zAa))))) (zAu rfl rfl (by rw [e,List.map_append]) zAN) rfl rfl⟩
      · have hli : ¬ (i : Int) < (KK.length : Int):=by omega
        have e : ks.take i = ks:=List.take_of_length_le hge
        skip
        repeat' first | apply en_n|apply zAH|apply zAB|apply zAF|apply w0|(apply zBn;exact rfl;exact rfl;first|assumption|omega)|apply ay (hd:=rfl)|exact zAE rfl|(apply zAl;exact rfl;(with_reducible exact zBt))|exact zAw rfl|exact zAm rfl|exact zAQ rfl|apply zAM|apply zAt|apply en_e|apply eb_e|apply zAJ|(apply zGq;exact rfl;exact rfl;(first|exact rfl|(simp;done)))
        first
          | exact ⟨_,_,_,rfl,by simp,by rw [List.take_of_length_le (by simp),e];rfl⟩
          | (rw [e];rfl)
theorem zNk {l : List (List UInt8)} {i : Nat} {x : List UInt8} (h : l[i]? = some x) (hn : (l.take i).Nodup) : (l.take (i + 1)).Nodup ↔ x ∉ l.take i:=by
  rw [List.take_add_one,h,Option.toList_some,List.nodup_append]
  constructor
  · rintro ⟨_,_,h3⟩ hx;exact h3 x hx x (by simp) rfl
  · exact fun hx=>⟨hn,by simp,fun a ha b hb=>by rw [List.mem_singleton] at hb;subst hb;exact fun e=>hx (e ▸ ha)⟩
theorem zQa {ks : List Tr} {i : Nat} {k : Tr} (h : ks[i]? = some k) : twL (ks.drop i) = (k.tw || twL (ks.drop (i + 1))):=by
  obtain ⟨hi,rfl⟩:=List.getElem?_eq_some_iff.1 h
  rw [List.drop_eq_getElem_cons hi,twL]
set_option maxHeartbeats 4000000 in
theorem zIw (L : List Nd) (hL : L.length ≤ 1000000) : ∀ (m n : Nat) (t : Tr) (pat : Bool),t.sz ≤ m → At L n t → t.werr pat = 0 → zAj Tryz.prog 26 [zAc L,i64 (n : Int)] (bl t.tw)
  | 0,n,t,_,hm,_,_=>by have:=zBR t;omega
  | m + 1,n,.mk x ks,pat,hm,h,hw=>by
    have hx:=h.here
    have hlen : n < L.length:=(List.getElem?_eq_some_iff.1 hx).1
    have hsz : (Tr.mk x ks).sz = szL ks + 1:=by rw [Tr.sz]
    have hi:=zGs x.kind
    have hpat : patK x.kind = pat:=(zCL (zC0 hw).1).2.1
    refine zAd Tryz.func26 rfl Tryz.ntmps26 Tryz.results26 rfl ?_
    intro wb St0
    cases hk : patK x.kind with
    | true =>
      rw [hk] at hi hpat
      subst hpat
      have hv:=zKd L hL _ n _ (Nat.le_refl _) h hw
      have hnl:=zEW (Tr.mk x ks).fl
      rw [Tr.fl_len] at hnl
      have hll:=h.len
      have e : (Tr.mk x ks).tw = !decide (zBJ (Tr.mk x ks).fl).Nodup:=by rw [Tr.tw,if_pos hk,Tr.fl]
      rw [e]
      generalize zBJ (Tr.mk x ks).fl = l at *
      clear e hw h
      repeat' first | apply en_n|apply zAH|apply zAB|apply zAF|apply w0|(refine zAV zCv hi (zAX rfl zAG))|(refine zAV zKz hv (zAX rfl (zAX rfl zAG)))|(apply aJ (hd:=rfl);(first|exact zAk rfl|exact Co_bb rfl rfl rfl|exact Co_nn rfl);exact rfl;(with_reducible exact zAW);assumption;omega;exact fun _=>rfl)|apply ay (hd:=rfl)|exact zAE rfl|exact zAC rfl|(apply zAy;exact rfl;(with_reducible exact fn_0))|(apply zAg;exact rfl;(with_reducible exact zAe))|exact zAK rfl|apply zAI
      refine zAr (α:=Nat) (fun i=>i ≤ l.length ∧ (l.take i).Nodup) (fun i=>[(5,.d (strs l)),(6,.d (i64 (i : Int)))]) (fun _=>[]) (fun i=>l.length - i) 0 ⟨Nat.zero_le _,by simp⟩
        (zAO (zAA rfl (Le_d rfl rfl zAa)) zAN rfl rfl) ?_
      rintro i ⟨hi1,hi2⟩
      have hll2 : l.length ≤ 1000000:=by omega
      rcases Nat.lt_or_ge i l.length with hlt | hge
      · obtain ⟨v,hv1⟩ : ∃ v,l[i]? = some v:=⟨_,List.getElem?_eq_getElem hlt⟩
        have hli : (i : Int) < (l.length : Int):=by omega
        have hv0 : l[((i : Nat) : Int).toNat]? = some v:=by rw [Int.toNat_natCast];exact hv1
        have hnd:=zNk hv1 hi2
        skip
        repeat' first | apply en_n|apply zAH|apply zAB|apply zAF|apply w0|(apply zA5;exact rfl;exact rfl;first|assumption|omega)|apply ay (hd:=rfl)|exact zAE rfl|exact zAC rfl|(apply zAl;exact rfl;(with_reducible first|exact zCy|exact zCy))|exact zAK rfl|apply zAI|apply zAP
        refine zAr (α:=Nat) (fun j=>j ≤ i ∧ v ∉ l.take j) (fun j=>[(5,.d (strs l)),(6,.d (i64 (i : Int))),(7,.d (i64 (j : Int)))]) (fun _=>[]) (fun j=>i - j) 0 ⟨Nat.zero_le _,by simp⟩
          (zAO (zAA rfl (zAA rfl (Le_d rfl rfl zAa))) zAN rfl rfl) ?_
        rintro j ⟨hj1,hj2⟩
        rcases Nat.lt_or_ge j i with hjlt | hjge
        · obtain ⟨w,hw1⟩ : ∃ w,l[j]? = some w:=⟨_,List.getElem?_eq_getElem (by omega)⟩
          have hlj : (j : Int) < (i : Int):=by omega
          have hw0 : l[((j : Nat) : Int).toNat]? = some w:=by rw [Int.toNat_natCast];exact hw1
          have hljl : (j : Int) < (l.length : Int):=by omega
          by_cases hvw : v = w
          · have hnot : ¬ l.Nodup:=fun c=>by
              have h1 : (l.take (i + 1)).Nodup:=c.sublist (List.take_sublist _ _)
              refine hnd.1 h1 ?_
              rw [hvw]
              exact List.mem_of_getElem? (i:=j) (by rw [List.getElem?_take,if_pos hjlt];exact hw1)
            rw [decide_eq_false hnot]
            skip
            repeat' first | apply en_n|apply zAH|apply zAB|apply zAF|apply w0|(apply zA5;exact rfl;exact rfl;first|assumption|omega)|(apply Y_eqsT;exact rfl;exact rfl;assumption)|(apply aJ (hd:=rfl);(first|exact zAk rfl|exact Co_bb rfl rfl rfl|exact Co_nn rfl);exact rfl;(with_reducible first|exact zBU|exact zBU);assumption;omega;exact fun _=>rfl)|apply ay (hd:=rfl)|exact zAE rfl|exact zAC rfl|(apply zAg;exact rfl;(with_reducible exact zAv))|exact zAK rfl|apply zAI|apply zAP|apply zAM|refine zA6 (by kernel_rfl) (by kernel_rfl) ?_|apply en_r|apply eb_r|apply zAJ|exact res1 rfl
            all_goals first | omega | rfl
          · skip
            repeat' first | apply en_n|apply zAH|apply zAB|apply zAF|apply w0|(apply zA5;exact rfl;exact rfl;first|assumption|omega)|(apply Y_eqsF;exact rfl;exact rfl;assumption)|(apply aJ (hd:=rfl);(first|exact zAk rfl|exact Co_bb rfl rfl rfl|exact Co_nn rfl);exact rfl;(with_reducible first|exact zBU|exact zBU);assumption;omega;exact fun _=>rfl)|apply ay (hd:=rfl)|exact zAE rfl|exact zAC rfl|(apply zAg;exact rfl;(with_reducible exact zAv))|exact zBC rfl rfl|exact zAK rfl|exact zAQ rfl|apply zAI|apply zAP|refine zA6 (by kernel_rfl) (by kernel_rfl) ?_|apply eb_n
            all_goals first | omega | skip
            all_goals exact ⟨j + 1,⟨by omega,by rw [List.take_add_one,hw1,Option.toList_some,List.mem_append,List.mem_singleton];exact fun c=>c.elim hj2 hvw⟩,by omega,zAO (zAA rfl (zAA rfl (zAA rfl zAa))) zAN rfl rfl⟩
        · have hlj : ¬ (j : Int) < (i : Int):=by omega
          have e : j = i:=by omega
          subst e
          skip
          repeat' first | apply en_n|apply zAH|apply zAB|apply zAF|apply w0|(apply zBn;exact rfl;exact rfl;first|assumption|omega)|apply ay (hd:=rfl)|exact zAE rfl|exact zAC rfl|exact zBC rfl rfl|exact zAQ rfl|apply zAt|apply en_e|apply eb_n|apply eb_e
          all_goals first | omega | skip
          all_goals exact ⟨j + 1,⟨by omega,hnd.2 hj2⟩,by omega,zAO (zAA rfl (zAA rfl zAa)) zAN rfl rfl⟩
      · have hli : ¬ (i : Int) < (l.length : Int):=by omega
        rw [List.take_of_length_le hge] at hi2
        rw [decide_eq_true hi2]
        skip
        repeat' first | apply en_n|apply zAH|apply zAB|apply zAF|apply w0|(apply zBn;exact rfl;exact rfl;first|assumption|omega)|apply ay (hd:=rfl)|exact zAE rfl|exact zAC rfl|(apply zAl;exact rfl;(with_reducible first|exact zCy|exact zCy))|exact zAQ rfl|apply zAM|apply zAt|apply en_r|apply en_e|apply eb_e|apply zAJ|exact res1 rfl
        all_goals rfl
    | false =>
      rw [hk] at hi
      have hkid:=zEo L (n : Int) (by omega)
      have hkl:=h.kids_len
      have hkg : ∀ i,i < ks.length → (zBV L (n : Int))[i]? = some ((kidAt n ks i : Nat) : Int):=fun i hi=>h.kids_get hi
      have hkat : ∀ i k,ks[i]? = some k → At L (kidAt n ks i) k:=fun i k hik=>h.kid hik
      have hwk:=(zC0 hw).2
      have e : (Tr.mk x ks).tw = twL ks:=by rw [Tr.tw,if_neg (by rw [hk];decide)]
      rw [e]
      have hsl:=zDx ks
      have hll:=h.len
      generalize zBV L (n : Int) = KK at *
      clear e hw
      repeat' first | apply en_n|apply zAH|apply zAB|apply zAF|apply w0|(refine zAV zCv hi (zAX rfl zAG))|(refine zAV zEr hkid (zAX rfl (zAX rfl zAG)))|(apply aJ (hd:=rfl);(first|exact zAk rfl|exact Co_bb rfl rfl rfl|exact Co_nn rfl);exact rfl;(with_reducible exact zAW);assumption;omega;exact fun _=>rfl)|apply ay (hd:=rfl)|exact zAE rfl|exact zAC rfl|(apply zAy;exact rfl;(with_reducible exact fn_0))|(apply zAg;exact rfl;(with_reducible exact zAe))|exact zAQ rfl|apply zAI|apply zAP
      refine zAr (α:=Nat) (fun i=>i ≤ ks.length ∧ twL ks = twL (ks.drop i)) (fun i=>[(0,.d (zAc L)),(8,.d (zBj KK)),(9,.d (i64 (i : Int)))]) (fun _=>[]) (fun i=>ks.length - i) 0 ⟨Nat.zero_le _,rfl⟩
        (zAO (zAA rfl (zAA rfl (Le_d rfl rfl zAa))) zAN rfl rfl) ?_
      rintro i ⟨hi1,hi2⟩
      rcases Nat.lt_or_ge i ks.length with hlt | hge
      · obtain ⟨k,hk⟩ : ∃ k,ks[i]? = some k:=⟨_,List.getElem?_eq_getElem hlt⟩
        have hki:=hkg i hlt
        have hks:=zCi (List.mem_of_getElem? hk)
        have ih:=zIw L hL m (kidAt n ks i) k _ (by omega) (hkat i k hk) (zBY (j:=i) hwk hk)
        have hli : (i : Int) < (KK.length : Int):=by omega
        rw [zQa hk] at hi2
        generalize kidAt n ks i = p at *
        clear hkg hkat hkid h hwk
        cases hb9 : k.tw with
        | true =>
          rw [hb9] at ih hi2
          rw [hi2,Bool.true_or]
          skip
          repeat' first | apply en_n|apply zAH|apply zAB|apply zAF|apply w0|(apply zA5;exact rfl;exact rfl;first|assumption|omega)|(refine zAV zFc ih (zAX rfl (zAX rfl zAG)))|(apply aJ (hd:=rfl);(first|exact zAk rfl|exact Co_bb rfl rfl rfl|exact Co_nn rfl);exact rfl;(with_reducible exact zA7);assumption;omega;exact fun _=>rfl)|apply ay (hd:=rfl)|exact zAE rfl|exact zAC rfl|(apply zAg;exact rfl;(with_reducible exact zAs))|(apply zAl;exact rfl;(with_reducible exact zBt))|exact zAK rfl|apply zAI|apply zAP|apply zAM|apply en_r|apply eb_r|apply zAJ|exact res1 rfl
          all_goals first | omega | rfl
        | false =>
          rw [hb9] at ih hi2
          rw [Bool.false_or] at hi2
          skip
          repeat' first | apply en_n|apply zAH|apply zAB|apply zAF|apply w0|(apply zA5;exact rfl;exact rfl;first|assumption|omega)|(refine zAV zFc ih (zAX rfl (zAX rfl zAG)))|(apply aJ (hd:=rfl);(first|exact zAk rfl|exact Co_bb rfl rfl rfl|exact Co_nn rfl);exact rfl;(with_reducible exact zA7);assumption;omega;exact fun _=>rfl)|apply ay (hd:=rfl)|exact zAE rfl|exact zAC rfl|(apply zAg;exact rfl;(with_reducible exact zAs))|(apply zAl;exact rfl;(with_reducible exact zBt))|exact zBC rfl rfl|exact zAK rfl|exact zAQ rfl|apply zAI|apply zAP|apply eb_n
          all_goals first | omega | skip
          all_goals exact ⟨i + 1,⟨by omega,hi2⟩,by omega,zAO (zAA rfl (zAA rfl (zAA rfl zAa))) zAN rfl rfl⟩
      · have hli : ¬ (i : Int) < (KK.length : Int):=by omega
        rw [List.drop_of_length_le hge,twL] at hi2
        rw [hi2]
        skip
        repeat' first | apply en_n|apply zAH|apply zAB|apply zAF|apply w0|(apply zBn;exact rfl;exact rfl;first|assumption|omega)|apply ay (hd:=rfl)|exact zAE rfl|exact zAC rfl|(apply zAl;exact rfl;(with_reducible exact zBt))|exact zAQ rfl|apply zAM|apply zAt|apply en_e|apply eb_e|apply zAJ|exact res1 rfl
        all_goals rfl
end Go.Proofs.YtblomnkamngnbaaGreatDoor
namespace Go.Sx
section
variable {P : Program} {η : List Ob} {σ : Sl} {dst : Option Nat} {ty : TypeId} {pos : String} {after : Array Edge} {gd : Option (Nat × Bool)} {t : TypeId} {x y : Operand}
theorem zTC {yt : TypeId} {a b : List UInt8} (hx : oval σ x = .d (str a)) (hy : oval σ y = .d (str b)) (h : ¬ a = b) : Ylds P η σ ⟨dst,.binOp .neq t x y yt,ty,pos,after,gd⟩ (.d (.val (.bool true))):=by
  have:=zGg (P:=P) (η:=η) (dst:=dst) (ty:=ty) (pos:=pos) (after:=after) (gd:=gd) (t:=t) (yt:=yt) hx hy;rwa [decide_eq_true h] at this
theorem zTD {yt : TypeId} {a b : List UInt8} (hx : oval σ x = .d (str a)) (hy : oval σ y = .d (str b)) (h : a = b) : Ylds P η σ ⟨dst,.binOp .neq t x y yt,ty,pos,after,gd⟩ (.d (.val (.bool false))):=by
  have:=zGg (P:=P) (η:=η) (dst:=dst) (ty:=ty) (pos:=pos) (after:=after) (gd:=gd) (t:=t) (yt:=yt) hx hy;rwa [decide_eq_false (fun c=>c h)] at this
end
end Go.Sx
