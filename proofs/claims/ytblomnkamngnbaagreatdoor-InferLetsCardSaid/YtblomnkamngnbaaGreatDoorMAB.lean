/- Texts of this claim, merged: SxT, SxFl, SxU, SxV, SxW, SxX, SxY, SxZ, SxAA, SxAB, SxAC, SxAD, SxAE, SxAF, SxAG, SxAH, SxAI, SxAJ, SxAK. -/
import Ieee.Arith
import Derived.Lib.AppendStr
import Derived.Lib.UnsafeStr
import Derived.Laws.FloatArith
import Derived.Lib.Builder
import Derived.Laws.Pointers
import Derived.Laws.Externs
import Derived.Laws.Sem
import Derived.MapKept
import Derived.Maps.RangeRun
import Derived.Laws.Cover3
import Derived.Deep.AppendSrc
import Derived.Test.YtblomnkamngnbaaGreatDoorMAA
namespace Go.Sx
open Go.RowKit
def look : List Nat → Nat → Option Nat
  | [],_=>none
  | x :: r,i=>match Nat.beq x i with
    | true=>some 0
    | false=>(look r i).map (· + 1)
theorem zFb : ∀ {l : List Nat} {i j : Nat},look l i = some j → l[j]? = some i
  | x :: r,i,j,h=>by
    unfold look at h
    split at h
    · rename_i hb;injection h with h;subst h;rw [Nat.eq_of_beq_eq_true hb];rfl
    · cases hl : look r i with
      | none=>simp [hl] at h
      | some j'=>simp [hl] at h;subst h;simpa using zFb hl
  | [],_,_,h=>by cases h
theorem zGp : ∀ {l : List Nat} {i : Nat},look l i = none → i ∉ l
  | x :: r,i,h=>by
    unfold look at h
    split at h
    · cases h
    · rename_i hb
      cases hl : look r i with
      | none =>
        have h1:=zGp hl
        intro hm
        rcases List.mem_cons.1 hm with rfl | hm
        · simp at hb
        · exact h1 hm
      | some j'=>simp [hl] at h
  | [],_,_=>by simp
theorem zMj {l : List Nat} (hn : l.Nodup) {i j : Nat} (h : l[j]? = some i) : look l i = some j:=by
  cases hl : look l i with
  | none=>exact absurd (List.mem_of_getElem? h) (zGp hl)
  | some k =>
    have h1:=zFb hl
    obtain ⟨q1,e1⟩:=List.getElem?_eq_some_iff.1 h
    obtain ⟨q2,e2⟩:=List.getElem?_eq_some_iff.1 h1
    have hp:=List.pairwise_iff_getElem.1 hn
    rcases Nat.lt_trichotomy j k with hlt | hlt | hlt
    · exact absurd (e1.trans e2.symm) (hp j k q1 q2 hlt)
    · rw [hlt]
    · exact absurd (e2.trans e1.symm) (hp k j q2 q1 hlt)
theorem zJJ : ∀ (η : List Ob) (is : List Nat) (ps : List Ob),(zCx η is ps).length = η.length
  | η,i :: is,p :: ps=>by rw [zCx,zJJ];simp
  | η,[],ps=>by cases ps <;> rfl
  | η,_ :: _,[]=>rfl
theorem zHL : ∀ (η : List Ob) (is : List Nat) (ps : List Ob) (i : Nat),i ∉ is → (zCx η is ps)[i]? = η[i]?
  | η,x :: is,p :: ps,i,h=>by
    have h1 : x ≠ i:=fun e=>h (by rw [e];simp)
    rw [zCx,zHL _ is ps i (fun hm=>h (List.mem_cons_of_mem _ hm)),List.getElem?_set]
    rw [if_neg h1]
  | η,[],ps,_,_=>by cases ps <;> rfl
  | η,_ :: _,[],_,_=>rfl
theorem zLA : ∀ (η : List Ob) (is : List Nat) (ps : List Ob) (j i : Nat) (o p : Ob),is.Nodup → is[j]? = some i → ps[j]? = some p → η[i]? = some o → (zCx η is ps)[i]? = some (Ob.back o p)
  | η,x :: is,q :: ps,0,i,o,p,hn,h1,h2,h3=>by
    simp at h1 h2;subst h1;subst h2
    rw [zCx,zHL _ is ps x (List.nodup_cons.1 hn).1,List.getElem?_set,if_pos rfl,if_pos (List.getElem?_eq_some_iff.1 h3).1,List.getD_eq_getElem?_getD,h3];rfl
  | η,x :: is,q :: ps,j + 1,i,o,p,hn,h1,h2,h3=>by
    obtain ⟨hx,hn⟩:=List.nodup_cons.1 hn
    have h1 : is[j]? = some i:=by simpa using h1
    have hne : x ≠ i:=fun e=>hx (e ▸ List.mem_of_getElem? h1)
    rw [zCx]
    exact zLA _ is ps j i o p hn h1 (by simpa using h2) (by rw [List.getElem?_set,if_neg hne];exact h3)
  | η,[],_,_,_,_,_,_,h1,_,_=>by simp at h1
  | η,_ :: _,[],_,_,_,_,_,_,h2,_=>by simp at h2
theorem zMA : ∀ {ids : List Nat} {pre : List Ob} {j i : Nat} {o : Ob},ids[j]? = some i → pre[j]? = some o → zGv o = false → i ∈ zBr ids pre
  | x :: ids,p :: pre,0,i,o,h1,h2,hb=>by
    simp at h1 h2;subst h1;subst h2
    unfold zBr;rw [hb];simp
  | x :: ids,p :: pre,j + 1,i,o,h1,h2,hb=>by
    have:=zMA (ids:=ids) (pre:=pre) (j:=j) (by simpa using h1) (by simpa using h2) hb
    unfold zBr
    split
    · exact this
    · exact List.mem_cons_of_mem _ this
  | [],_,_,_,_,h1,_,_=>by simp at h1
  | _ :: _,[],_,_,_,_,h2,_=>by simp at h2
def Picks (η : List Ob) (ids : List Nat) (pre : List Ob) : Prop:=(ids.map fun i=>(η[i]?).map Ob.forget) = pre.map fun p=>some (p.ren ids)
theorem Picks.get {η : List Ob} {ids : List Nat} {pre : List Ob} (h : Picks η ids pre) {j i : Nat} {p : Ob} (hi : ids[j]? = some i) (hp : pre[j]? = some p) : ∃ o,η[i]? = some o ∧ o.forget = p.ren ids:=by
  have h1 : (ids.map fun i=>(η[i]?).map Ob.forget)[j]? = (pre.map fun p=>some (p.ren ids))[j]?:=by rw [h]
  rw [List.getElem?_map,List.getElem?_map,hi,hp] at h1
  simp only [Option.map_some,Option.some.injEq] at h1
  cases ho : η[i]? with
  | none=>simp [ho] at h1
  | some o=>simp [ho] at h1;exact ⟨o,rfl,h1⟩
theorem zO6 {o : Ob} {ids : List Nat} {p : Ob} (h : o.forget = p.ren ids) (hp : zGv p = false) : o = p.ren ids:=by
  cases p with
  | bx k et cs=>cases hp
  | mapq q k l=>cases hp
  | buf mu e sz xs=>cases o <;> simp [Ob.forget,Ob.ren] at h ⊢ <;> exact h
  | iter s q=>cases o <;> simp [Ob.forget,Ob.ren] at h ⊢ <;> exact h
  | miter m since seen st=>cases o <;> simp [Ob.forget,Ob.ren] at h ⊢ <;> exact h
  | gone=>cases o <;> simp [Ob.forget,Ob.ren] at h ⊢
def zBd (g : Gh) (ids : List Nat) : Gh:={ g with blk:=fun j=>(ids[j]?).bind g.blk,cap:=fun j=>g.cap (ids.getD j 0),sz:=fun j=>g.sz (ids.getD j 0),n:=ids.length }
def zM3 (g g' : Gh) (ids : List Nat) (n : Nat) : Gh :=
  { St:=g'.St,blk:=fun i=>match look ids i with | some j=>g'.blk j | none=>g.blk i,cap:=fun i=>match look ids i with | some j=>g'.cap j | none=>g.cap i,sz:=fun i=>match look ids i with | some j=>g'.sz j | none=>g.sz i,n:=n }
theorem getD_some {ids : List Nat} {j i : Nat} (h : ids[j]? = some i) : ids.getD j 0 = i:=by rw [List.getD_eq_getElem?_getD,h];rfl
theorem Inv.callee {g : Gh} {w : World} {η : List Ob} {ids : List Nat} {pre : List Ob} (hi : Inv g w η) (hn : ids.Nodup) (hlen : ids.length = pre.length) (hp : Picks η ids pre) (hu : zEG pre = true) (hb : pre.all (Ob.below pre.length) = true) : Inv (zBd g ids) w pre:=by
  have hg : ∀ j b,(zBd g ids).blk j = some b → ∃ i,ids[j]? = some i ∧ g.blk i = some b:=by
    intro j b h
    simp only [zBd] at h
    cases hj : ids[j]? with
    | none=>simp [hj] at h
    | some i=>simp [hj] at h;exact ⟨i,rfl,h⟩
  refine ⟨by simp [zBd,hlen],fun j b h=>?_,fun j h=>?_,fun i j b h1 h2=>?_,fun j p hpj=>?_,hi.st,hi.gl⟩
  · obtain ⟨i,_,h1⟩:=hg j b h;exact hi.lt i b h1
  · simp only [zBd] at h ⊢;rw [List.getElem?_eq_none h];rfl
  · obtain ⟨i1,q1,q2⟩:=hg i b h1
    obtain ⟨i2,q3,q4⟩:=hg j b h2
    have:=hi.inj i1 i2 b q2 q4
    subst this
    have a1:=zMj hn q1
    rw [zMj hn q3] at a1
    exact (Option.some.inj a1).symm
  · have hjl : j < ids.length:=by rw [hlen];exact (List.getElem?_eq_some_iff.1 hpj).1
    have hij : ids[j]? = some ids[j]:=List.getElem?_eq_getElem hjl
    obtain ⟨o,ho,hf⟩:=hp.get hij hpj
    have hoo:=hi.ob _ o ho
    have eb : (zBd g ids).blk j = g.blk ids[j]:=by simp [zBd,hij]
    have ec : (zBd g ids).cap j = g.cap ids[j]:=by simp only [zBd];rw [getD_some hij]
    have es : (zBd g ids).sz j = g.sz ids[j]:=by simp only [zBd];rw [getD_some hij]
    have hm : ∀ k,k < (zBd g ids).n → g.blk (ids.getD k 0) = (zBd g ids).blk k ∧ g.cap (ids.getD k 0) = (zBd g ids).cap k ∧ g.sz (ids.getD k 0) = (zBd g ids).sz k:=by
      intro k hk
      have hk' : ids[k]? = some ids[k]:=List.getElem?_eq_getElem hk
      exact ⟨by simp only [zBd];rw [getD_some hk',hk'];rfl,rfl,rfl⟩
    have hbelow:=List.all_eq_true.1 hb _ (List.mem_of_getElem? hpj)
    have hnone:=List.all_eq_true.1 hu _ (List.mem_of_getElem? hpj)
    cases hbx : zGv p with
    | false =>
      have:=zO6 hf hbx
      subst this
      cases p with
      | bx k et cs=>cases hbx
      | mapq q k l=>cases hbx
      | buf mu e sz xs =>
        obtain ⟨h1,h2,h3,h4,h5⟩:=hoo
        exact ⟨by rw [es];exact h1,h2,by rw [ec];exact h3,by rw [ec];exact h4,by rw [eb,ec];exact h5⟩
      | iter s q=>obtain ⟨b,h1,h2,h3⟩:=hoo;exact ⟨b,by rw [eb];exact h1,h2,h3⟩
      | miter m since seen st =>
        obtain ⟨b,bm,h1,h2,h3,h4⟩:=hoo
        have hml : m < (zBd g ids).n:=by
          have : m < pre.length:=by simpa [Ob.below] using hbelow
          simp only [zBd];omega
        exact ⟨b,bm,by rw [eb];exact h1,hml,by rw [← (hm m hml).1];exact h3,h4⟩
      | gone=>trivial
    | true =>
      cases p with
      | bx k et cs =>
        cases k with
        | some c=>cases hnone
        | none =>
          cases o with
          | bx k2 et2 cs2 =>
            simp only [Ob.forget,Ob.ren,Ob.bx.injEq,true_and] at hf
            obtain ⟨rfl,rfl⟩:=hf
            obtain ⟨b,e,us,h1,h2,h3,h4,h5,h6,h7⟩:=hoo
            refine ⟨b,e,us,by rw [eb];exact h1,h2,by simpa using h3,h4,fun q u s hu' hs=>?_,h6,fun _ h=>(by cases h),h7.2⟩
            have hsb:=List.all_eq_true.1 hbelow s (List.mem_of_getElem? hs)
            refine RepS.unren (g:=zBd g ids) (g2:=g) rfl (by simp only [zBd];rw [hlen];exact hsb) hm (h5 q u (s.ren ids) hu' ?_)
            rw [List.getElem?_map,hs];rfl
          | _=>simp [Ob.forget,Ob.ren] at hf
      | mapq q k l =>
        cases k with
        | some c=>cases hnone
        | none =>
          cases o with
          | mapq q2 k2 l2 =>
            simp only [Ob.forget,Ob.ren,Ob.mapq.injEq,true_and] at hf
            obtain ⟨rfl,rfl⟩:=hf
            obtain ⟨b,es',ck,h1,h2,h3,h4,h5,h6,h7⟩:=hoo
            exact ⟨b,es',ck,by rw [eb];exact h1,h2,h3,h4,h5,fun _ h=>(by cases h),h7⟩
          | _=>simp [Ob.forget,Ob.ren] at hf
      | _=>cases hbx
theorem RepSs.callee {g : Gh} {w : World} {ids : List Nat} {m : Nat} (hm' : ids.length = m) : ∀ (vs : List Value) (as : List SV),(∀ (j : Nat) v s,vs[j]? = some v → as[j]? = some s → RepS g w v (s.ren ids)) → vs.length = as.length → as.all (SV.bel m) = true → RepSs (zBd g ids) w vs as
  | [],[],_,_,_=>trivial
  | v :: vs,s :: as,h,hl,hb=>by
    simp only [List.all_cons,Bool.and_eq_true] at hb
    refine ⟨RepS.unren (g:=zBd g ids) (g2:=g) rfl (by simp only [zBd];rw [hm'];exact hb.1) (fun k hk=>?_) (h 0 v s rfl rfl),RepSs.callee hm' vs as (fun j v' s' h1 h2=>h (j + 1) v' s' (by simpa using h1) (by simpa using h2)) (by simpa using hl) hb.2⟩
    have hk' : ids[k]? = some ids[k]:=List.getElem?_eq_getElem hk
    exact ⟨by simp only [zBd];rw [getD_some hk',hk'];rfl,rfl,rfl⟩
  | [],_ :: _,_,hl,_=>by simp at hl
  | _ :: _,[],_,hl,_=>by simp at hl
def zFB (ids : List Nat) (n : Nat) (pre post : List Ob) : List Nat:=ids ++ List.range' n (post.length - pre.length)
def ηOf (ids : List Nat) (pre post η : List Ob) : List Ob :=
  zCx (zDy (zBr ids pre) ids η ++ List.replicate (post.length - pre.length) .gone) (zFB ids η.length pre post) (post.map (Ob.ren (zFB ids η.length pre post)))
theorem zQX {ids : List Nat} {n : Nat} {pre post : List Ob} (hlen : ids.length = pre.length) {j i : Nat} (h : (zFB ids n pre post)[j]? = some i) : (j < pre.length ∧ ids[j]? = some i) ∨ (pre.length ≤ j ∧ j < post.length ∧ i = n + (j - pre.length)):=by
  have h0:=h
  unfold zFB at h h0
  rcases Nat.lt_or_ge j ids.length with hj | hj
  · rw [List.getElem?_append_left hj] at h;exact .inl ⟨by omega,h⟩
  · have hb:=(List.getElem?_eq_some_iff.1 h0).1
    simp only [List.length_append,List.length_range'] at hb
    rw [List.getElem?_append_right hj,List.getElem?_range' (by omega)] at h
    injection h with h;exact .inr ⟨by omega,by omega,by omega⟩
theorem zMo {ids : List Nat} {n : Nat} {pre post : List Ob} (hn : ids.Nodup) (hl : ∀ i ∈ ids,i < n) : (zFB ids n pre post).Nodup:=by
  unfold zFB
  rw [List.nodup_append]
  refine ⟨hn,List.nodup_range',fun a ha b hb e=>?_⟩
  subst e
  have h1:=hl a ha
  rw [List.mem_range'_1] at hb
  omega
section
variable {C : Ctx} {σ : Sl} {η : List Ob}
theorem AbsG.called {g g' : Gh} {a : Act} {w w' : World} (h : AbsG C g σ η a w) {ids : List Nat} {pre post : List Ob} {v : Value} {res : SV} (hn : ids.Nodup) (hlen : ids.length = pre.length) (hp : Picks η ids pre) (hk : zCn pre post = true) (hro : ids.all (fun i=>Nat.ble C.ro i) = true)
    (hI : Inv g' w' post) (hres : RepS g' w' v res) (hF : Frame (zBd g ids) w pre g' w') :
    ∃ g2,AbsG C g2 (zCi (zBr ids pre) ids σ) (ηOf ids pre post η) a w' ∧ RepS g2 w' v (res.ren (zFB ids η.length pre post)):=by
  have hpl : pre.length ≤ post.length:=zDz hk
  have hgn:=h.inv.n
  have hinl : ∀ i,i ∈ ids → i < g.n:=by
    intro i hm
    obtain ⟨j,hj⟩:=List.mem_iff_getElem?.1 hm
    have hjl : j < pre.length:=by rw [← hlen];exact (List.getElem?_eq_some_iff.1 hj).1
    obtain ⟨o,ho,_⟩:=hp.get hj (List.getElem?_eq_getElem hjl)
    rw [h.inv.n];exact (List.getElem?_eq_some_iff.1 ho).1
  have hgc : ∀ j b,(zBd g ids).blk j = some b → ∃ i,ids[j]? = some i ∧ g.blk i = some b:=by
    intro j b hb
    simp only [zBd] at hb
    cases hj : ids[j]? with
    | none=>simp [hj] at hb
    | some i=>simp [hj] at hb;exact ⟨i,rfl,hb⟩
  have hown : ∀ j b,(zBd g ids).blk j = some b → C.w0.heap.size ≤ b ∨ C.X b:=by
    intro j b hb
    obtain ⟨i,hi,hb⟩:=hgc j b hb
    exact h.own i b hb (Nat.le_of_ble_eq_true (List.all_eq_true.1 hro i (List.mem_of_getElem? hi)))
  have hidl : (zFB ids η.length pre post).length = post.length:=by simp [zFB,hlen];omega
  have hnd : (zFB ids η.length pre post).Nodup:=zMo hn fun i hi=>by rw [← hgn];exact hinl i hi
  have hmem : ∀ i,i ∈ zFB ids η.length pre post ↔ i ∈ ids ∨ (η.length ≤ i ∧ i < η.length + (post.length - pre.length)):=by
    intro i;unfold zFB;rw [List.mem_append,List.mem_range'_1]
  have hget : ∀ {j i : Nat},(zFB ids η.length pre post)[j]? = some i → (j < pre.length ∧ ids[j]? = some i) ∨ (pre.length ≤ j ∧ j < post.length ∧ i = η.length + (j - pre.length)):=fun hj=>zQX hlen hj
  have hgetl : ∀ {j i : Nat},ids[j]? = some i → (zFB ids η.length pre post)[j]? = some i:=fun hj=>by
    unfold zFB;rw [List.getElem?_append_left (List.getElem?_eq_some_iff.1 hj).1];exact hj
  generalize hidx : zFB ids η.length pre post = idx at hidl hnd hmem hget hgetl
  let g2:=zM3 g g' idx (g.n + (post.length - pre.length))
  have e_out : ∀ i,i ∉ idx → g2.blk i = g.blk i ∧ g2.cap i = g.cap i ∧ g2.sz i = g.sz i:=by
    intro i hi
    have : look idx i = none:=by
      cases hl : look idx i with
      | none=>rfl
      | some j=>exact absurd (List.mem_of_getElem? (zFb hl)) hi
    simp only [g2,zM3,this];exact ⟨trivial,trivial,trivial⟩
  have e_in : ∀ j i,idx[j]? = some i → g2.blk i = g'.blk j ∧ g2.cap i = g'.cap j ∧ g2.sz i = g'.sz j:=by
    intro j i hj
    simp only [g2,zM3,zMj hnd hj];exact ⟨trivial,trivial,trivial⟩
  have hold : ∀ i,i < g.n → i ∉ ids → i ∉ idx:=fun i hi hm hm2=>by
    rcases (hmem i).1 hm2 with h1 | h1
    · exact hm h1
    · omega
  have e_out' : ∀ i,i < g.n → i ∉ ids → g2.blk i = g.blk i ∧ g2.cap i = g.cap i ∧ g2.sz i = g.sz i:=fun i hi hm=>e_out i (hold i hi hm)
  have e_box : ∀ i,i < g.n → i ∉ zBr ids pre → g2.blk i = g.blk i:=by
    intro i hig hi
    by_cases hm : i ∈ ids
    · obtain ⟨j,hj⟩:=List.mem_iff_getElem?.1 hm
      have hjl : j < pre.length:=by rw [← hlen];exact (List.getElem?_eq_some_iff.1 hj).1
      have hpj : pre[j]? = some pre[j]:=List.getElem?_eq_getElem hjl
      cases hb : zGv pre[j] with
      | false=>exact absurd (zMA hj hpj hb) hi
      | true=>rw [(e_in j i (hgetl hj)).1,hF.box j _ hpj hb];simp [zBd,hj]
    · exact (e_out' i hig hm).1
  have kp : Keep g.St w g2.St w':=hF.keep
  have n2 : g.n ≤ g2.n:=Nat.le_add_right _ _
  have rw_ : ∀ {u : Value} {s : SV},RepS g w u s → RepS g2 w' u (s.wipe (zBr ids pre) ids):=fun r=>r.wipe kp e_out' e_box n2
  have rm_ : ∀ j,j < g'.n → idx.getD j 0 < g2.n ∧ g2.blk (idx.getD j 0) = g'.blk j ∧ g2.cap (idx.getD j 0) = g'.cap j ∧ g2.sz (idx.getD j 0) = g'.sz j:=fun j hj=>by
    have hjl : j < idx.length:=by rw [hidl, ← hI.n];exact hj
    have hj' : idx[j]? = some idx[j]:=List.getElem?_eq_getElem hjl
    rw [getD_some hj']
    refine ⟨?_,e_in j _ hj'⟩
    show idx[j] < g.n + (post.length - pre.length)
    rcases (hmem idx[j]).1 (List.getElem_mem hjl) with h1 | h1
    · have:=hinl _ h1;omega
    · omega
  have rn_ : ∀ {u : Value} {s : SV},RepS g' w' u s → RepS g2 w' u (s.ren idx):=fun r=>RepS.ren (g:=g') (g2:=g2) rfl rm_ r
  have hblk : ∀ i b,g2.blk i = some b → (i ∉ idx ∧ g.blk i = some b) ∨ ∃ j,idx[j]? = some i ∧ g'.blk j = some b:=by
    intro i b hb
    cases hl : look idx i with
    | none=>exact .inl ⟨zGp hl,by rw [← (e_out i (zGp hl)).1];exact hb⟩
    | some j=>exact .inr ⟨j,zFb hl,by rw [← (e_in j i (zFb hl)).1];exact hb⟩
  have hforeign : ∀ i b,i ∉ ids → g.blk i = some b → ∀ j,(zBd g ids).blk j ≠ some b:=by
    intro i b hi hb j hj
    obtain ⟨i2,q1,q2⟩:=hgc j b hj
    have:=h.inv.inj i i2 b hb q2
    exact hi (this ▸ List.mem_of_getElem? q1)
  have hnotin : ∀ i,i ∉ idx → i ∉ ids:=fun i hi hm=>hi ((hmem i).2 (.inl hm))
  have hlenw : (zDy (zBr ids pre) ids η ++ List.replicate (post.length - pre.length) Ob.gone).length = η.length + (post.length - pre.length):=by rw [List.length_append,zEh,List.length_replicate]
  unfold ηOf
  rw [hidx]
  refine ⟨g2,⟨h.defers,h.size,⟨by rw [zJJ,hlenw, ← hgn];rfl,fun i b hb=>?_,fun i hi=>?_,fun i j b hbi hbj=>?_,fun i o ho=>?_,hI.st,hI.gl⟩,hF.os.trans h.os,hF.tape.trans h.tape,hF.output.trans h.output,Nat.le_trans h.wsize hF.size,
    fun k hk hx=>?_,h.keep.trans kp,fun b o hb=>?_,fun i b hb hr=>?_,fun t=>?_⟩,rn_ hres⟩
  · rcases hblk i b hb with ⟨_,h1⟩ | ⟨j,_,h1⟩
    · exact Nat.lt_of_lt_of_le (h.inv.lt i b h1) hF.size
    · exact hI.lt j b h1
  · have hi : g.n + (post.length - pre.length) ≤ i:=hi
    have hm : i ∉ idx:=fun hm=>by
      rcases (hmem i).1 hm with h1 | h1
      · have:=hinl i h1;omega
      · omega
    rw [(e_out i hm).1];exact h.inv.dead i (by omega)
  · rcases hblk i b hbi with ⟨q1,q2⟩ | ⟨j1,q1,q2⟩ <;> rcases hblk j b hbj with ⟨q3,q4⟩ | ⟨j2,q3,q4⟩
    · exact h.inv.inj i j b q2 q4
    · exfalso
      rcases hF.own j2 b q4 with h1 | ⟨k,h1⟩
      · have:=h.inv.lt i b q2;omega
      · exact hforeign i b (hnotin i q1) q2 k h1
    · exfalso
      rcases hF.own j1 b q2 with h1 | ⟨k,h1⟩
      · have:=h.inv.lt j b q4;omega
      · exact hforeign j b (hnotin j q3) q4 k h1
    · have:=hI.inj j1 j2 b q2 q4
      subst this
      rw [q1] at q3;exact Option.some.inj q3
  ·
    by_cases hm : i ∈ idx
    · obtain ⟨j,hj⟩:=List.mem_iff_getElem?.1 hm
      have hjl : j < post.length:=by rw [← hidl];exact (List.getElem?_eq_some_iff.1 hj).1
      have hqj : post[j]? = some post[j]:=List.getElem?_eq_getElem hjl
      have hoo:=hI.ob j _ hqj
      obtain ⟨eb,ec,es⟩:=e_in j i hj
      obtain ⟨was,hwas,hanchor⟩ : ∃ was,(zDy (zBr ids pre) ids η ++ List.replicate (post.length - pre.length) Ob.gone)[i]? = some was ∧
          (zCr was = zCr post[j] ∧ (zGv was = true → g.blk i = g'.blk j ∧ ∃ old,η[i]? = some old ∧ was = old.wipe (zBr ids pre) ids) ∨ was = .gone):=by
        rcases hget hj with ⟨hjp,hij⟩ | ⟨hjp,_,hij⟩
        · have hpj : pre[j]? = some pre[j]:=List.getElem?_eq_getElem hjp
          obtain ⟨old,hold',hfo⟩:=hp.get hij hpj
          have hil : i < η.length:=(List.getElem?_eq_some_iff.1 hold').1
          refine ⟨old.wipe (zBr ids pre) ids,by rw [List.getElem?_append_left (by rw [zEh];exact hil),zIA,hold'];rfl,?_⟩
          have hs:=zD0 hk j _ _ hpj hqj
          have hko : zCr old = zCr pre[j]:=by
            have h1 : zCr old.forget = zCr old:=by cases old <;> rfl
            have h2 : zCr (pre[j].ren ids) = zCr pre[j]:=by cases pre[j] <;> rfl
            rw [← h1,hfo,h2]
          have hkw : zCr (old.wipe (zBr ids pre) ids) = zCr old:=by
            cases old with
            | miter m since seen st=>simp only [Ob.wipe];split <;> rfl
            | _=>rfl
          refine .inl ⟨hkw.trans (hko.trans hs),fun hb=>⟨?_,old,hold',rfl⟩⟩
          have hbp : zGv pre[j] = true:=zEC.2 (by rw [← hko, ← hkw];exact zEC.1 hb)
          rw [hF.box j _ hpj hbp];simp [zBd,hij]
        · exact ⟨.gone,by rw [List.getElem?_append_right (by rw [zEh];omega),zEh,List.getElem?_replicate,if_pos (by omega)],.inr rfl⟩
      have hset:=zLA _ idx (post.map (Ob.ren idx)) j i was (post[j].ren idx) hnd hj (by rw [List.getElem?_map,hqj];rfl) hwas
      rw [hset] at ho
      injection ho with ho
      generalize post[j] = q at hoo ho hanchor
      cases q with
      | bx k et cs =>
        obtain ⟨b,e,us,h1,h2,h3,h4,h5,h6,h7⟩:=hoo
        have key : ∀ k',(∀ c,k' = some c → c = b) → ObOk g2 w' i (.bx k' et (cs.map (SV.ren idx))):=fun k' hk'=>by
          refine ⟨b,e,us,by rw [eb];exact h1,h2,by simpa using h3,h4,fun m u s hu hs=>?_,h6,hk',h7.2⟩
          rw [List.getElem?_map] at hs
          cases hcs : cs[m]? with
          | none=>simp [hcs] at hs
          | some s0=>simp [hcs] at hs;subst hs;exact rn_ (h5 m u s0 hu hcs)
        rcases hanchor with ⟨h8,h9⟩ | rfl
        · cases was with
          | bx k2 et2 cs2 =>
            subst ho
            obtain ⟨h10,old,h11,h12⟩:=h9 rfl
            refine key k2 fun c hc=>?_
            have hoo2:=h.inv.ob i old h11
            cases old with
            | bx k3 et3 cs3 =>
              simp only [Ob.wipe,Ob.bx.injEq] at h12
              obtain ⟨b2,e2,us2,o1,o2,o3,o4,o5,o6,o7⟩:=hoo2
              rw [o1,h1] at h10
              injection h10 with h10
              rw [← h10];exact o7.1 c (by rw [← h12.1];exact hc)
            | miter m since seen st=>simp only [Ob.wipe] at h12;split at h12 <;> cases h12
            | _=>simp [Ob.wipe] at h12
          | _=>cases h8
        · subst ho
          exact key k h7.1
      | mapq q k l =>
        obtain ⟨b,es',ck,h1,h2,h3,h4,h5,h6,h7⟩:=hoo
        have key : ∀ k',(∀ c,k' = some c → c = b) → ObOk g2 w' i (.mapq q k' l):=fun k' hk'=>⟨b,es',ck,by rw [eb];exact h1,h2,h3,h4,h5,hk',h7⟩
        rcases hanchor with ⟨h8,h9⟩ | rfl
        · cases was with
          | mapq q2 k2 l2 =>
            subst ho
            obtain ⟨h10,old,h11,h12⟩:=h9 rfl
            refine key k2 fun c hc=>?_
            have hoo2:=h.inv.ob i old h11
            cases old with
            | mapq q3 k3 l3 =>
              simp only [Ob.wipe,Ob.mapq.injEq] at h12
              obtain ⟨b2,es2,ck2,o1,o2,o3,o4,o5,o6,_⟩:=hoo2
              rw [o1,h1] at h10
              injection h10 with h10
              rw [← h10];exact o6 c (by rw [← h12.2.1];exact hc)
            | miter m since seen st=>simp only [Ob.wipe] at h12;split at h12 <;> cases h12
            | _=>simp [Ob.wipe] at h12
          | _=>cases h8
        · subst ho
          exact key k h6
      | buf mu e sz xs =>
        have ho : Ob.buf mu e sz xs = o:=by cases was <;> exact ho
        subst ho
        obtain ⟨h1,h2,h3,h4,h5⟩:=hoo
        exact ⟨by rw [es];exact h1,h2,by rw [ec];exact h3,by rw [ec];exact h4,by rw [eb,ec];exact h5⟩
      | iter s p =>
        have ho : Ob.iter s p = o:=by cases was <;> exact ho
        subst ho
        obtain ⟨b,h1,h2,h3⟩:=hoo;exact ⟨b,by rw [eb];exact h1,h2,h3⟩
      | miter m since seen st =>
        have ho : Ob.miter (idx.getD m 0) since seen st = o:=by cases was <;> exact ho
        subst ho
        obtain ⟨b,bm,h1,h2,h3,h4⟩:=hoo
        obtain ⟨r1,r2,_⟩:=rm_ m h2
        exact ⟨b,bm,by rw [eb];exact h1,r1,by rw [r2];exact h3,h4⟩
      | gone =>
        have ho : Ob.gone = o:=by cases was <;> exact ho
        subst ho;trivial
    · rw [zHL _ _ _ i hm] at ho
      have hil : i < η.length:=by
        have h1:=(List.getElem?_eq_some_iff.1 ho).1
        rw [hlenw] at h1
        rcases Nat.lt_or_ge i η.length with h2 | h2
        · exact h2
        · exact absurd ((hmem i).2 (.inr ⟨h2,h1⟩)) hm
      rw [List.getElem?_append_left (by rw [zEh];exact hil),zIA] at ho
      have hmi:=hnotin i hm
      cases hq : η[i]? with
      | none=>simp [hq] at ho
      | some q =>
        simp [hq] at ho;subst ho
        have hoo:=h.inv.ob i q hq
        obtain ⟨eb,ec,es⟩:=e_out i hm
        have hh : ∀ b,g.blk i = some b → w'.heap[b]? = w.heap[b]? ∧ ∀ o,g2.St b o ↔ g.St b o:=by
          intro b hb
          have hf:=hforeign i b hmi hb
          refine ⟨hF.heap b (h.inv.lt i b hb) hf,fun o=>⟨fun ho=>?_,fun ho=>kp.sub b o ho⟩⟩
          rcases hF.new b o ho with h1 | h1 | ⟨j,h1⟩
          · exact h1
          · have:=h.inv.lt i b hb;omega
          · exact absurd h1 (hf j)
        cases q with
        | bx k et cs =>
          obtain ⟨b,e,us,h1,h2,h3,h4,h5,h6,h7⟩:=hoo
          refine ⟨b,e,us,by rw [eb];exact h1,(hh b h1).1.trans h2,by simpa using h3,h4,fun m u s hu hs=>?_,fun o ho=>h6 o (((hh b h1).2 o).1 ho),h7⟩
          rw [List.getElem?_map] at hs
          cases hcs : cs[m]? with
          | none=>simp [hcs] at hs
          | some s0=>simp [hcs] at hs;subst hs;exact rw_ (h5 m u s0 hu hcs)
        | buf mu e sz xs =>
          obtain ⟨h1,h2,h3,h4,h5⟩:=hoo
          refine ⟨by rw [es];exact h1,h2,by rw [ec];exact h3,by rw [ec];exact h4,?_⟩
          rcases h5 with h5 | ⟨b,us,h5,h6,h7,h8,h9,h10⟩
          · exact .inl (by rw [eb,ec];exact h5)
          · exact .inr ⟨b,us,by rw [eb];exact h5,(hh b h5).1.trans h6,by rw [ec];exact h7,h8,fun m u d hu hd=>(h9 m u d hu hd).keep kp,fun o=>((hh b h5).2 o).trans (h10 o)⟩
        | iter s p =>
          obtain ⟨b,h1,h2,h3⟩:=hoo
          exact ⟨b,by rw [eb];exact h1,(hh b h1).1.trans h2,fun o ho=>h3 o (((hh b h1).2 o).1 ho)⟩
        | mapq q kb l =>
          obtain ⟨b,es',ck,h1,h2,h3,h4,h5,h6⟩:=hoo
          exact ⟨b,es',ck,by rw [eb];exact h1,(hh b h1).1.trans h2,h3,fun j e p he hp=>⟨(h4 j e p he hp).1,(h4 j e p he hp).2.keep kp⟩,fun o ho=>h5 o (((hh b h1).2 o).1 ho),h6⟩
        | miter m since seen st =>
          simp only [Ob.wipe]
          cases hmb : (zBr ids pre).any (Nat.beq m) with
          | true=>trivial
          | false =>
            obtain ⟨b,bm,h1,h2,h3,h4,h5⟩:=hoo
            exact ⟨b,bm,by rw [eb];exact h1,Nat.lt_of_lt_of_le h2 n2,by rw [e_box m h2 (zEO hmb)];exact h3,(hh b h1).1.trans h4,fun o ho=>h5 o (((hh b h1).2 o).1 ho)⟩
        | gone=>trivial
  · refine (hF.heap k (Nat.lt_of_lt_of_le hk h.wsize) fun j hj=>?_).trans (h.heap k hk hx)
    rcases hown j k hj with h1 | h1
    · omega
    · exact hx h1
  · rcases hF.new b o hb with h1 | h1 | ⟨j,h1⟩
    · exact h.new b o h1
    · exact .inr (.inl (Nat.le_trans h.wsize h1))
    · exact .inr (hown j b h1)
  · rcases hblk i b hb with ⟨_,h1⟩ | ⟨j,_,h1⟩
    · exact h.own i b h1 hr
    · rcases hF.own j b h1 with h2 | ⟨k,h2⟩
      · exact .inl (Nat.le_trans h.wsize h2)
      · exact hown k b h2
  · rw [zDI];exact rw_ (h.rep t)
def zDs : List Ob → List Ob → Bool
  | [],[]=>true
  | o :: r,p :: s=>Nat.beq (zCr o) (zCr p) && zDs r s
  | _,_=>false
theorem zEQ : ∀ {l m : List Ob},zDs l m = true → zCn l m = true ∧ l.length = m.length
  | [],[],_=>⟨rfl,rfl⟩
  | o :: r,p :: s,h=>by
    simp only [zDs,Bool.and_eq_true] at h
    obtain ⟨h1,h2⟩:=zEQ h.2
    exact ⟨by simp only [zCn,Bool.and_eq_true];exact ⟨h.1,h1⟩,by simp [h2]⟩
  | [],_ :: _,h=>by cases h
  | _ :: _,[],h=>by cases h
theorem zJq {ids : List Nat} {pre post η : List Ob} (h : pre.length = post.length) : ηOf ids pre post η = zCx (zDy (zBr ids pre) ids η) ids (post.map (Ob.ren ids)) ∧ zFB ids η.length pre post = ids:=by
  simp [ηOf,zFB,h]
end
def SArgs (σ : Sl) (ids : List Nat) : List Operand → List SV → Prop
  | [],[]=>True
  | x :: xs,s :: ss=>oval σ x = s.ren ids ∧ SArgs σ ids xs ss
  | _,_=>False
theorem zAM {σ : Sl} {ids : List Nat} : SArgs σ ids [] []:=trivial
theorem zAI {σ : Sl} {ids : List Nat} {x : Operand} {xs : List Operand} {s : SV} {ss : List SV} (h : oval σ x = s.ren ids) (r : SArgs σ ids xs ss) : SArgs σ ids (x :: xs) (s :: ss):=⟨h,r⟩
theorem SArgs.rep {C : Ctx} {g : Gh} {σ : Sl} {η : List Ob} {a : Act} {w : World} (ha : AbsG C g σ η a w) {ids : List Nat} : ∀ (xs : List Operand) (ss : List SV),SArgs σ ids xs ss → xs.length = ss.length ∧ ∀ (j : Nat) v s,(xs.map a.eval)[j]? = some v → ss[j]? = some s → RepS g w v (s.ren ids)
  | [],[],_=>⟨rfl,fun j v s h=>by simp at h⟩
  | x :: xs,s :: ss,⟨h1,h2⟩=>by
    obtain ⟨e1,e2⟩:=SArgs.rep ha xs ss h2
    refine ⟨by simp [e1],fun j v s' hv hs=>?_⟩
    match j with
    | 0 =>
      simp at hv hs;subst hv;subst hs
      have:=ha.eval x;rw [h1] at this;exact this
    | j + 1=>exact e2 j v s' (by simpa using hv) (by simpa using hs)
  | [],_ :: _,h=>h.elim
  | _ :: _,[],h=>h.elim
section
variable {C : Ctx} {ops : Array Oper} {rest : List Oper} {K : Sl → List Ob → Prop} {σ : Sl} {η : List Ob} {d : Nat} {ty : TypeId} {pos : String} {after : Array Edge} {gd : Option (Nat × Bool)}
theorem zAy {f : FuncId} {args : List Operand} {ts : Array TypeId} {as : List SV} {pre post : List Ob} {res : SV} (ids : List Nat) (hb : zAO C.P f = true) (hc : zAx C.P f as pre res post) (ha : SArgs σ ids args as) (hp : Picks η ids pre) (hd : Nat.blt d C.N = true)
    (hn : ids.Nodup) (hlen : ids.length = pre.length) (hu : zEG pre = true) (hbl : pre.all (Ob.below pre.length) = true) (hba : as.all (SV.bel pre.length) = true) (hk : zDs pre post = true) (hro : ids.all (fun i=>Nat.ble C.ro i) = true)
    (h : alex C false ops rest K ((d,res.ren ids) :: zCi (zBr ids pre) ids σ) (zCx (zDy (zBr ids pre) ids η) ids (post.map (Ob.ren ids)))) :
    zA3 C false ops ⟨some d,.call ⟨.value (.func f),args.toArray,ts⟩,ty,pos,after,gd⟩ rest K σ η:=by
  intro Q hQ a w ⟨g,hg⟩ K' hK'
  obtain ⟨e1,e2⟩:=ha.rep hg
  unfold Oper.wp
  have hrun : (execOp a.eval ⟨some d,.call ⟨.value (.func f),args.toArray,ts⟩,ty,pos,after,gd⟩).run C.P w = .ok (.enter f (args.map a.eval).toArray) w:=by
    simp only [execOp,resolve,Act.eval,Deferred.ofValue,invoke,Sem.run_bind,Sem.run_pure,Result.andThen_ok,List.map_toArray,Array.empty_append,Array.append_empty]
    exact zCk hb
  rw [hrun,Oper.upon_enter]
  have hr:=RepSs.callee (g:=g) (w:=w) hlen (args.map a.eval) as e2 (by simp [e1]) hba
  refine (hc (zBd g ids) w _ (hg.inv.callee hn hlen hp hu hbl) hr).mono fun e w' ⟨v,g',he,hI,hres,hF⟩=>?_
  subst he
  obtain ⟨hk1,hk2⟩:=zEQ hk
  obtain ⟨g2,h1,h2⟩:=hg.called hn hlen hp hk1 hro hI hres hF
  obtain ⟨e3,e4⟩:=zJq (ids:=ids) (η:=η) hk2
  rw [e3] at h1;rw [e4] at h2
  exact hK' _ _ (h Q hQ _ w' ⟨g2,h1.put (d:=some d) hd h2⟩)
theorem zTx {f : FuncId} {args : List Operand} {ts : Array TypeId} {as : List SV} {pre post : List Ob} {res : SV} (ids : List Nat) (hb : zAO C.P f = true) (hc : zAx C.P f as pre res post) (ha : SArgs σ ids args as) (hp : Picks η ids pre) (hd : Nat.blt d C.N = true)
    (hn : ids.Nodup) (hlen : ids.length = pre.length) (hu : zEG pre = true) (hbl : pre.all (Ob.below pre.length) = true) (hba : as.all (SV.bel pre.length) = true) (hk : zCn pre post = true) (hro : ids.all (fun i=>Nat.ble C.ro i) = true)
    (h : alex C false ops rest K ((d,res.ren (zFB ids η.length pre post)) :: zCi (zBr ids pre) ids σ) (ηOf ids pre post η)) :
    zA3 C false ops ⟨some d,.call ⟨.value (.func f),args.toArray,ts⟩,ty,pos,after,gd⟩ rest K σ η:=by
  intro Q hQ a w ⟨g,hg⟩ K' hK'
  obtain ⟨e1,e2⟩:=ha.rep hg
  unfold Oper.wp
  have hrun : (execOp a.eval ⟨some d,.call ⟨.value (.func f),args.toArray,ts⟩,ty,pos,after,gd⟩).run C.P w = .ok (.enter f (args.map a.eval).toArray) w:=by
    simp only [execOp,resolve,Act.eval,Deferred.ofValue,invoke,Sem.run_bind,Sem.run_pure,Result.andThen_ok,List.map_toArray,Array.empty_append,Array.append_empty]
    exact zCk hb
  rw [hrun,Oper.upon_enter]
  have hr:=RepSs.callee (g:=g) (w:=w) hlen (args.map a.eval) as e2 (by simp [e1]) hba
  refine (hc (zBd g ids) w _ (hg.inv.callee hn hlen hp hu hbl) hr).mono fun e w' ⟨v,g',he,hI,hres,hF⟩=>?_
  subst he
  obtain ⟨g2,h1,h2⟩:=hg.called hn hlen hp hk hro hI hres hF
  exact hK' _ _ (h Q hQ _ w' ⟨g2,h1.put (d:=some d) hd h2⟩)
end
end Go.Sx
namespace Go.Fl
open Ieee
def Fd (n : Nat) : Nat:=double.nearest false n 0
end Go.Fl
namespace Go.Sx
open Go.RowKit Go.Lib
section
variable {C : Ctx} {ops : Array Oper} {rest : List Oper} {K : Sl → List Ob → Prop} {σ : Sl} {η : List Ob} {d : Nat} {ty : TypeId} {pos : String} {after : Array Edge} {gd : Option (Nat × Bool)} {t u : TypeId} {x y : Operand}
end
section
variable {P : Program} {η : List Ob} {σ : Sl} {dst : Option Nat} {ty : TypeId} {pos : String} {after : Array Edge} {gd : Option (Nat × Bool)} {t yt : TypeId} {x y : Operand}
abbrev fl (n : Nat) : D:=.val (.float .f64 (Fl.Fd n))
end
end Go.Sx
namespace Go.Sx
open Go.RowKit Go.Lib
section
variable {P : Program} {η : List Ob} {σ : Sl} {dst : Option Nat} {ty : TypeId} {pos : String} {after : Array Edge} {gd : Option (Nat × Bool)} {t yt : TypeId} {x y : Operand}
theorem zAe {id o : Nat} (hx : oval σ x = .ptr id o) : Ylds P η σ ⟨dst,.nilCheck x,ty,pos,after,gd⟩ (.ptr id o):=by
  refine Ylds.same fun g w a hi h=>⟨a.eval x,?_,?_⟩
  · have h1:=h x (by simp [Op.operands]);rw [hx] at h1
    obtain ⟨_,b,_,hv⟩:=h1
    simp [execOp,hv]
  · have h1:=h x (by simp [Op.operands]);rw [hx] at h1;exact h1
end
end Go.Sx
namespace Go.Sx
open Go.RowKit Go.Lib
def zBA (P : Program) (f : FuncId) (as : List SV) (pre : List Ob) (res : D) : Prop :=
  ∀ (g : Gh) (w : World) (vs : List Value),Inv g w pre → RepSs g w vs as →
    Calls P f vs.toArray w (fun e w'=>∃ v St',e = .returned v ∧ RepD St' w' v res ∧ Below w.heap.size w w' ∧ Keep g.St w St' w' ∧
      (∀ b o,St' b o → g.St b o ∨ w.heap.size ≤ b) ∧ (∀ b o,St' b o → b < w'.heap.size))
theorem zBw {P : Program} {f : FuncId} {fn : Func} {c : Code} {as : List SV} {pre : List Ob} {res : D} {N : Nat} {rs : Array ResultVar} (hf : P.funcs[f]? = some fn) (hb : fn.body = some c) (hN : fn.ntmps = N) (hrs : fn.results = rs) (hl : Nat.ble as.length N = true)
    (h : ∀ (w0 : World) (St0 : Stab),awp ⟨P,N,w0,St0,fun _=>False,pre.length⟩ c (zBX rs res) (zMc as 0) pre) : zBA P f as pre res:=by
  intro g w vs hi hrep
  subst hN
  have hl:=Nat.le_of_ble_eq_true hl
  have hlen:=hrep.len
  refine calls_of_wp hf hb (h w g.St _ ?_ _ _ ?_)
  · intro e σ' η' a' w' hq ⟨g',ha⟩
    have fin : ResOk rs σ' η' res → a'.defers = [] ∧ ∃ v,(results fn a'.tmps).run P w' = .ok v w' ∧ ∃ v_1 St',Ending.returned v = .returned v_1 ∧ RepD St' w' v_1 res ∧ Below w.heap.size w w' ∧ Keep g.St w St' w' ∧
      (∀ b o,St' b o → g.St b o ∨ w.heap.size ≤ b) ∧ (∀ b o,St' b o → b < w'.heap.size):=by
      intro hq
      obtain ⟨v,hr,hd⟩:=hq.run (P:=P) hrs ha
      refine ⟨ha.defers,v,hr,v,g'.St,rfl,hd,⟨ha.os,ha.tape,ha.output,ha.wsize,fun k hk=>ha.heap k hk (fun h=>h)⟩,ha.keep,fun b o hb=>?_,ha.inv.st⟩
      rcases ha.new b o hb with h1 | h1 | h1
      · exact .inl h1
      · exact .inr h1
      · exact h1.elim
    cases e <;> first | exact fin hq | exact hq.elim
  · refine ⟨g,rfl,?_,hi,rfl,rfl,rfl,Nat.le_refl _,fun _ _ _=>rfl,Keep.refl g.St w,fun _ _ h=>.inl h,fun i b hb hr=>?_,?_⟩
    · simp [hlen];omega
    · exfalso
      have h1 : pre.length ≤ i:=hr
      have h2:=hi.dead i (by rw [hi.n];exact h1)
      rw [hb] at h2;cases h2
    · refine zFV vs as 0 _ hrep fun j v hj=>?_
      have hjl : j < vs.length:=(List.getElem?_eq_some_iff.1 hj).1
      simp only [Nat.zero_add,Array.getD_eq_getD_getElem?]
      rw [Array.getElem?_append_left (by simpa using hjl)]
      simp [hj]
theorem SArgs.repO {g : Gh} {w : World} {a : Act} {σ : Sl} {ids : List Nat} : ∀ (xs : List Operand) (ss : List SV),(∀ x ∈ xs,RepS g w (a.eval x) (oval σ x)) → SArgs σ ids xs ss → xs.length = ss.length ∧ ∀ (j : Nat) v s,(xs.map a.eval)[j]? = some v → ss[j]? = some s → RepS g w v (s.ren ids)
  | [],[],_,_=>⟨rfl,fun j v s h=>by simp at h⟩
  | x :: xs,s :: ss,ho,⟨h1,h2⟩=>by
    obtain ⟨e1,e2⟩:=SArgs.repO xs ss (fun y hy=>ho y (by simp [hy])) h2
    refine ⟨by simp [e1],fun j v s' hv hs=>?_⟩
    match j with
    | 0 =>
      simp at hv hs;subst hv;subst hs
      have:=ho x (by simp);rw [h1] at this;exact this
    | j + 1=>exact e2 j v s' (by simpa using hv) (by simpa using hs)
  | [],_ :: _,_,h=>h.elim
  | _ :: _,[],_,h=>h.elim
theorem zOF {g : Gh} {w : World} {a : Act} {σ : Sl} {ids cs cids : List Nat} {x : Operand} {f : FuncId} {args : List Operand} {as : List SV} (hx : oval σ x = .clo f cids) (hcs : cs.map (fun j=>ids.getD j 0) = cids) (ho : RepS g w (a.eval x) (oval σ x)) (ha : ∀ y ∈ args,RepS g w (a.eval y) (oval σ y)) (hs : SArgs σ ids args as) :
    ∃ cv : List Value,a.eval x = .func (.func f) #[] cv.toArray ∧ (args.map a.eval ++ cv).length = (as ++ cs.map fun j=>SV.ptr j 0).length ∧ ∀ (j : Nat) v s,(args.map a.eval ++ cv)[j]? = some v → (as ++ cs.map fun j=>SV.ptr j 0)[j]? = some s → RepS g w v (s.ren ids):=by
  rw [hx] at ho
  obtain ⟨cv,h1,h2,h3⟩:=ho
  obtain ⟨e1,e2⟩:=SArgs.repO args as ha hs
  have hl : cs.length = cids.length:=by rw [← hcs,List.length_map]
  refine ⟨cv,h1,by simp [e1,h2,hl],fun j v s hv hs=>?_⟩
  rcases Nat.lt_or_ge j args.length with hj | hj
  · rw [List.getElem?_append_left (by simpa using hj)] at hv
    rw [List.getElem?_append_left (by omega)] at hs
    exact e2 j v s hv hs
  · rw [List.getElem?_append_right (by simpa using hj)] at hv
    rw [List.getElem?_append_right (by omega)] at hs
    rw [List.length_map] at hv
    rw [List.getElem?_map] at hs
    rw [← e1] at hs
    cases hc : cs[j - args.length]? with
    | none=>simp [hc] at hs
    | some c =>
      simp [hc] at hs;subst hs
      have hid : cids[j - args.length]? = some (ids.getD c 0):=by rw [← hcs,List.getElem?_map,hc];rfl
      exact h3 (j - args.length) _ v hid hv
section
variable {P : Program} {η : List Ob} {σ : Sl} {dst : Option Nat} {ty : TypeId} {pos : String} {after : Array Edge} {gd : Option (Nat × Bool)} {t yt : TypeId} {x y : Operand}
theorem zIL {f : FuncId} {a : Act} {cv : List Value} {args : List Operand} {ts : Array TypeId} {w : World} (hx : a.eval x = .func (.func f) #[] cv.toArray) (hb : zAO P f = true) :
    (execOp a.eval ⟨dst,.call ⟨.value x,args.toArray,ts⟩,ty,pos,after,gd⟩).run P w = .ok (.enter f (args.map a.eval ++ cv).toArray) w:=by
  simp only [execOp,resolve,hx,Deferred.ofValue,invoke,Sem.run_bind,Sem.run_pure,Result.andThen_ok,List.map_toArray,Array.empty_append]
  rw [List.append_toArray]
  exact zCk hb
theorem zTJ {f : FuncId} {args : List Operand} {ts : Array TypeId} {as : List SV} {pre : List Ob} {res : D} {cids : List Nat} (ids cs : List Nat) (hx : oval σ x = .clo f cids) (hcs : cs.map (fun j=>ids.getD j 0) = cids) (hb : zAO P f = true) (hc : zBA P f (as ++ cs.map fun j=>SV.ptr j 0) pre res) (ha : SArgs σ ids args as) (hp : Picks η ids pre)
    (hn : ids.Nodup) (hlen : ids.length = pre.length) (hu : zEG pre = true) (hbl : pre.all (Ob.below pre.length) = true) (hba : (as ++ cs.map fun j=>SV.ptr j 0).all (SV.bel pre.length) = true) :
    Ylds P η σ ⟨dst,.call ⟨.value x,args.toArray,ts⟩,ty,pos,after,gd⟩ (.d res):=by
  intro g w a hi hop
  obtain ⟨cv,e1,e2,e3⟩:=zOF (g:=g) (w:=w) (a:=a) hx hcs (hop x (by simp [Op.operands,Call.operands])) (fun y hy=>hop y (by simp [Op.operands,Call.operands,hy])) ha
  refine .inr ⟨f,_,zIL e1 hb,?_⟩
  have hr:=RepSs.callee (g:=g) (w:=w) hlen _ _ e3 e2 hba
  refine (hc (zBd g ids) w _ (hi.callee hn hlen hp hu hbl) hr).mono fun e w' ⟨v,St',he,hrep,hbel,hkeep,hnew,hlt⟩=>?_
  exact ⟨v, { g with St:=St' },he,⟨rfl,rfl,rfl,rfl,hbel.os,hbel.tape,hbel.output,hbel.size,hbel.block,hkeep.sub,hnew,hlt⟩,hrep⟩
theorem zA6 {f : FuncId} {args : List Operand} {ts : Array TypeId} {asx : List SV} {pre : List Ob} {res : D} {cids : List Nat} (ids cs : List Nat) (hx : oval σ x = .clo f cids) (hcs : cs.map (fun j=>ids.getD j 0) = cids) (hb : zAO P f = true) (hc : zBA P f asx pre res) (hsp : asx.drop args.length = cs.map fun j=>SV.ptr j 0) (ha : SArgs σ ids args (asx.take args.length)) (hp : Picks η ids pre)
    (hn : ids.Nodup) (hlen : ids.length = pre.length) (hu : zEG pre = true) (hbl : pre.all (Ob.below pre.length) = true) (hba : asx.all (SV.bel pre.length) = true) :
    Ylds P η σ ⟨dst,.call ⟨.value x,args.toArray,ts⟩,ty,pos,after,gd⟩ (.d res):=by
  have e : asx = asx.take args.length ++ cs.map fun j=>SV.ptr j 0:=by rw [← hsp,List.take_append_drop]
  exact zTJ ids cs hx hcs hb (e ▸ hc) ha hp hn hlen hu hbl (e ▸ hba)
theorem zML {f : FuncId} {args : List Operand} {ts : Array TypeId} {ds : List D} {res : D} (hx : oval σ x = .clo f []) (hb : zAO P f = true) (hc : zAm P f ds res) (ha : CoL η σ args ds) :
    Ylds P η σ ⟨dst,.call ⟨.value x,args.toArray,ts⟩,ty,pos,after,gd⟩ (.d res):=by
  intro g w a hi hop
  have hr:=CoL.rep (a:=a) hi args ds (fun y hm=>hop y (by simp [Op.operands,Call.operands,hm])) ha
  have hxr:=hop x (by simp [Op.operands,Call.operands]);rw [hx] at hxr
  obtain ⟨cv,h1,h2,_⟩:=hxr
  have : cv = []:=List.eq_nil_of_length_eq_zero h2
  subst this
  refine .inr ⟨f,_,zIL h1 hb,?_⟩
  rw [List.append_nil]
  refine (hc g.St w _ hi.st hi.gl hr).mono fun e w' ⟨v,St',he,hrep,hbel,hkeep,hnew,hlt⟩=>?_
  exact ⟨v, { g with St:=St' },he,⟨rfl,rfl,rfl,rfl,hbel.os,hbel.tape,hbel.output,hbel.size,hbel.block,hkeep.sub,hnew,hlt⟩,hrep⟩
end
section
variable {C : Ctx} {ops : Array Oper} {rest : List Oper} {K : Sl → List Ob → Prop} {σ : Sl} {η : List Ob} {d : Nat} {ty : TypeId} {pos : String} {after : Array Edge} {gd : Option (Nat × Bool)} {t : TypeId} {x y : Operand}
theorem zV2 {f : FuncId} {args : List Operand} {ts : Array TypeId} {as : List SV} {pre post : List Ob} {res : SV} {cids : List Nat} (ids cs : List Nat) (hx : oval σ x = .clo f cids) (hcs : cs.map (fun j=>ids.getD j 0) = cids) (hb : zAO C.P f = true) (hc : zAx C.P f (as ++ cs.map fun j=>SV.ptr j 0) pre res post) (ha : SArgs σ ids args as) (hp : Picks η ids pre) (hd : Nat.blt d C.N = true)
    (hn : ids.Nodup) (hlen : ids.length = pre.length) (hu : zEG pre = true) (hbl : pre.all (Ob.below pre.length) = true) (hba : (as ++ cs.map fun j=>SV.ptr j 0).all (SV.bel pre.length) = true) (hk : zDs pre post = true) (hro : ids.all (fun i=>Nat.ble C.ro i) = true)
    (h : alex C false ops rest K ((d,res.ren ids) :: zCi (zBr ids pre) ids σ) (zCx (zDy (zBr ids pre) ids η) ids (post.map (Ob.ren ids)))) :
    zA3 C false ops ⟨some d,.call ⟨.value x,args.toArray,ts⟩,ty,pos,after,gd⟩ rest K σ η:=by
  intro Q hQ a w ⟨g,hg⟩ K' hK'
  obtain ⟨cv,e1,e2,e3⟩:=zOF (g:=g) (w:=w) (a:=a) hx hcs (hg.eval x) (fun y _=>hg.eval y) ha
  unfold Oper.wp
  rw [zIL e1 hb,Oper.upon_enter]
  have hr:=RepSs.callee (g:=g) (w:=w) hlen _ _ e3 e2 hba
  refine (hc (zBd g ids) w _ (hg.inv.callee hn hlen hp hu hbl) hr).mono fun e w' ⟨v,g',he,hI,hres,hF⟩=>?_
  subst he
  obtain ⟨hk1,hk2⟩:=zEQ hk
  obtain ⟨g2,h1,h2⟩:=hg.called hn hlen hp hk1 hro hI hres hF
  obtain ⟨e4,e5⟩:=zJq (ids:=ids) (η:=η) hk2
  rw [e4] at h1;rw [e5] at h2
  exact hK' _ _ (h Q hQ _ w' ⟨g2,h1.put (d:=some d) hd h2⟩)
theorem zRW {f : FuncId} {args : List Operand} {ts : Array TypeId} {asx : List SV} {pre post : List Ob} {res : SV} {cids : List Nat} (ids cs : List Nat) (hx : oval σ x = .clo f cids) (hcs : cs.map (fun j=>ids.getD j 0) = cids) (hb : zAO C.P f = true) (hc : zAx C.P f asx pre res post) (hsp : asx.drop args.length = cs.map fun j=>SV.ptr j 0) (ha : SArgs σ ids args (asx.take args.length)) (hp : Picks η ids pre) (hd : Nat.blt d C.N = true)
    (hn : ids.Nodup) (hlen : ids.length = pre.length) (hu : zEG pre = true) (hbl : pre.all (Ob.below pre.length) = true) (hba : asx.all (SV.bel pre.length) = true) (hk : zDs pre post = true) (hro : ids.all (fun i=>Nat.ble C.ro i) = true)
    (h : alex C false ops rest K ((d,res.ren ids) :: zCi (zBr ids pre) ids σ) (zCx (zDy (zBr ids pre) ids η) ids (post.map (Ob.ren ids)))) :
    zA3 C false ops ⟨some d,.call ⟨.value x,args.toArray,ts⟩,ty,pos,after,gd⟩ rest K σ η:=by
  have e : asx = asx.take args.length ++ cs.map fun j=>SV.ptr j 0:=by rw [← hsp,List.take_append_drop]
  exact zV2 ids cs hx hcs hb (e ▸ hc) ha hp hd hn hlen hu hbl (e ▸ hba) hk hro h
end
section
variable {P : Program} {η : List Ob} {σ : Sl} {dst : Option Nat} {ty : TypeId} {pos : String} {after : Array Edge} {gd : Option (Nat × Bool)} {t yt : TypeId} {x y : Operand}
end
end Go.Sx
namespace Go.Sx
section
variable {P : Program} {η : List Ob} {σ : Sl} {dst : Option Nat} {ty : TypeId} {pos : String} {after : Array Edge} {gd : Option (Nat × Bool)} {t : TypeId}
end
end Go.Sx
namespace Go.Sx
open Go.RowKit Go.Lib
section
variable {C : Ctx} {σ : Sl} {η : List Ob}
theorem zHg {Q : Exit → Sl → List Ob → Prop} {c : Code} (id j : Nat) (mu : Bool) (e sz : Nat) {k : Option Nat} {et : Option TypeId} {cs : List SV} (ho : η[id]? = some (.bx k et cs)) (hj : cs[j]? = some .nil) (hro : Nat.ble C.ro η.length = true)
    (h : awp C c Q σ (η.set id (.bx k et (cs.set j (.buf η.length 0))) ++ [.buf mu e sz []])) : awp C c Q σ η:=by
  intro R hR a w ⟨g,ha⟩
  refine h R hR a w ?_
  have hn:=ha.inv.n
  let g' : Gh:={ g with blk:=upd g.blk g.n none,cap:=upd g.cap g.n 0,sz:=upd g.sz g.n sz,n:=g.n + 1 }
  have hold : ∀ id,id < g.n → g'.blk id = g.blk id ∧ g'.cap id = g.cap id ∧ g'.sz id = g.sz id:=fun id hid=>by simp [g',upd,Nat.ne_of_lt hid]
  have hab:=ha.newOb (g':=g') (w':=w) (.buf mu e sz []) rfl rfl rfl (Nat.le_refl _) (fun _ _=>rfl) rfl hold (fun id hid=>by
      have hne : id ≠ g.n:=by omega
      simp only [g',upd,if_neg hne]
      exact ha.inv.dead id (by omega)) (fun b hb=>by simp [g',upd] at hb) (fun _ _ h=>h) (fun _ _ h=>.inl h) ha.inv.st (by rw [hn];exact Nat.le_of_ble_eq_true hro)
    ⟨by simp [g',upd],by simp,by simp [g',upd],by simp,.inl ⟨by simp [g',upd],by simp [g',upd]⟩⟩
  have hidl : id < η.length:=(List.getElem?_eq_some_iff.1 ho).1
  refine ⟨g', { hab with inv:={ hab.inv with n:=by simpa using hab.inv.n,ob:=fun i o hi=>?_ } }⟩
  rcases Nat.lt_or_ge i η.length with hil | hil
  · rw [List.getElem?_append_left (by simpa using hil),List.getElem?_set] at hi
    split at hi
    · rename_i hc;subst hc
      try rw [if_pos hidl] at hi
      injection hi with hi;subst hi
      obtain ⟨b,e',us,h1,h2,h3,h4,h5,h6,h7⟩:=hab.inv.ob id (.bx k et cs) (by rw [List.getElem?_append_left hidl];exact ho)
      refine ⟨b,e',us,h1,h2,by simpa using h3,h4,fun m u s hu hs=>?_,h6,h7⟩
      rw [List.getElem?_set] at hs
      split at hs
      · rename_i hm;subst hm
        have hjl:=(List.getElem?_eq_some_iff.1 hj).1
        try rw [if_pos hjl] at hs
        injection hs with hs;subst hs
        have h8 : u = .slice none 0 0:=h5 j u _ hu hj
        refine ⟨by show η.length < g.n + 1;omega,?_⟩
        rw [h8, ← hn];simp [g',upd]
      · exact h5 m u s hu hs
    · exact hab.inv.ob i o (by rw [List.getElem?_append_left hil];exact hi)
  · rw [List.getElem?_append_right (by simpa using hil)] at hi
    exact hab.inv.ob i o (by rw [List.getElem?_append_right hil];simpa using hi)
end
end Go.Sx
namespace Go.Sx
open Go.RowKit Go.Lib
def zLF (tmps : Array Value) : ResultVar → Sem Value
  | .tmp t=>pure (tmps.getD t undef)
  | .cell a t=>do loadVar t (← asAddr (tmps.getD a undef))
theorem zNr {P : Program} {w : World} {tmps : Array Value} : ∀ (l : List ResultVar) (vs : List Value),l.length = vs.length → (∀ (j : Nat) r v,l[j]? = some r → vs[j]? = some v → (zLF tmps r).run P w = .ok v w) → (l.mapM (zLF tmps)).run P w = .ok vs w
  | [],[],_,_=>rfl
  | r :: l,v :: vs,hl,h=>by
    have h0:=h 0 r v rfl rfl
    have ih:=zNr l vs (by simpa using hl) (fun j r v h1 h2=>h (j + 1) r v (by simpa using h1) (by simpa using h2))
    rw [List.mapM_cons]
    simp only [Sem.run_bind,h0,Result.andThen_ok,ih,Sem.run_pure]
  | [],_ :: _,hl,_=>by simp at hl
  | _ :: _,[],hl,_=>by simp at hl
def tupV : List Value → Value
  | [v]=>v
  | vs=>.tuple vs.toArray
theorem zHd {P : Program} {w : World} {fn : Func} {tmps : Array Value} {l : List ResultVar} {vs : List Value} (hrs : fn.results = l.toArray) (hl : l.length = vs.length) (h : ∀ (j : Nat) r v,l[j]? = some r → vs[j]? = some v → (zLF tmps r).run P w = .ok v w) : (results fn tmps).run P w = .ok (tupV vs) w:=by
  have h1:=zNr l vs hl h
  have e : results fn tmps = (do let vs ← fn.results.mapM (zLF tmps);pure (if h : vs.size = 1 then vs[0] else .tuple vs)):=by
    unfold results;congr 2
  rw [e,hrs,Array.mapM_eq_mapM_toList]
  simp only [Sem.run_bind,Sem.run_map,h1,Sem.run_pure,Result.andThen_ok]
  match vs with
  | []=>rfl
  | [v]=>rfl
  | v :: u :: r=>simp [tupV]
def CoV (η : List Ob) : List SV → List D → Prop
  | [],[]=>True
  | s :: ss,d :: ds=>Co η s d ∧ CoV η ss ds
  | _,_=>False
theorem CoV.len {η : List Ob} : ∀ {ss : List SV} {ds : List D},CoV η ss ds → ss.length = ds.length
  | [],[],_=>rfl
  | _ :: _,_ :: _,h=>by simp [CoV.len h.2]
  | [],_ :: _,h=>h.elim
  | _ :: _,[],h=>h.elim
theorem CoV.get {η : List Ob} : ∀ {ss : List SV} {ds : List D},CoV η ss ds → ∀ (j : Nat) s d,ss[j]? = some s → ds[j]? = some d → Co η s d
  | s :: ss,d :: ds,h,0,s',d',h1,h2=>by simp at h1 h2;subst h1;subst h2;exact h.1
  | s :: ss,d :: ds,h,j + 1,s',d',h1,h2=>CoV.get h.2 j s' d' (by simpa using h1) (by simpa using h2)
  | [],[],_,j,_,_,h1,_=>by simp at h1
  | [],_ :: _,h,_,_,_,_,_=>h.elim
  | _ :: _,[],h,_,_,_,_,_=>h.elim
theorem zT4 {η : List Ob} : ∀ {ss : List SV} {ds : List D},toDs ss = some ds → CoV η ss ds
  | [],ds,h=>by simp [toDs] at h;subst h;trivial
  | s :: r,ds,h=>by
    cases s <;> simp only [toDs] at h
    all_goals first
      | (cases h;done)
      | (cases h2 : toDs r with
         | none=>rw [h2] at h;cases h
         | some ds'=>rw [h2] at h;cases h;exact ⟨by first | exact rfl | exact .inl rfl,zT4 h2⟩)
def RVal (P : Program) (σ : Sl) (η : List Ob) : ResultVar → D → Prop
  | .tmp r,d=>Co η (get σ r) d
  | .cell a t,d=>∃ id o n kb et cs,get σ a = .ptr id o ∧ η[id]? = some (.bx kb et cs) ∧
      ((zBF P t = some (true,n) ∧ o + n ≤ cs.length ∧ ∃ ds,CoV η ((cs.drop o).take n) ds ∧ d = .agg ds) ∨ (zBF P t = some (false,n) ∧ ∃ s,cs[o]? = some s ∧ Co η s d))
def RVals (P : Program) (σ : Sl) (η : List Ob) : List ResultVar → List D → Prop
  | [],[]=>True
  | r :: rs,d :: ds=>RVal P σ η r d ∧ RVals P σ η rs ds
  | _,_=>False
def ResC (P : Program) (rs : Array ResultVar) (σ : Sl) (η : List Ob) (res : D) : Prop :=
  match rs.toList,res with
  | [r],d=>RVal P σ η r d
  | l,.tup ds=>RVals P σ η l ds
  | _,_=>False
def zBI (P : Program) (rs : Array ResultVar) (res : D) : Exit → Sl → List Ob → Prop
  | .ret,σ,η=>ResC P rs σ η res
  | .normal,σ,η=>ResC P rs σ η res
  | _,_,_=>False
theorem zC8 {P : Program} {rs : Array ResultVar} {res : D} {σ : Sl} {η : List Ob} (h : ResC P rs σ η res) : zBI P rs res .ret σ η:=h
section
variable {P : Program} {σ : Sl} {η : List Ob}
theorem zE5 {r1 r2 : ResultVar} {rs : List ResultVar} {ds : List D} (h : RVals P σ η (r1 :: r2 :: rs) ds) : ResC P (r1 :: r2 :: rs).toArray σ η (.tup ds):=h
theorem zJ4 {r : ResultVar} {d : D} (h : RVals P σ η [r] [d]) : ResC P [r].toArray σ η d:=h.1
theorem zGK : RVals P σ η [] []:=trivial
theorem RV_d {r : Nat} {d d' : D} {rs : List ResultVar} {ds : List D} (h : get σ r = .d d') (h2 : RVals P σ η rs ds) (e : d' = d) : RVals P σ η (.tmp r :: rs) (d :: ds):=by
  subst e;exact ⟨by show Co η (get σ r) _;rw [h];rfl,h2⟩
theorem RV_c {a t id o n : Nat} {kb : Option Nat} {et : Option TypeId} {cs : List SV} {ds' : List D} {d : D} {rs : List ResultVar} {ds : List D} (h : get σ a = .ptr id o) (ho : η[id]? = some (.bx kb et cs)) (ht : zBF P t = some (true,n)) (hl : Nat.ble (o + n) cs.length = true) (hs : toDs ((cs.drop o).take n) = some ds') (h2 : RVals P σ η rs ds) (e : D.agg ds' = d) : RVals P σ η (.cell a t :: rs) (d :: ds):=by
  subst e;exact ⟨⟨id,o,n,kb,et,cs,h,ho,.inl ⟨ht,Nat.le_of_ble_eq_true hl,ds',zT4 hs,rfl⟩⟩,h2⟩
end
theorem RVal.run {P : Program} {r : ResultVar} {σ : Sl} {η : List Ob} {d : D} {g : Gh} {w : World} {a : Act} {C : Ctx} (h : RVal P σ η r d) (ha : AbsG C g σ η a w) : ∃ v,(zLF a.tmps r).run P w = .ok v w ∧ RepD g.St w v d:=by
  cases r with
  | tmp r=>exact ⟨_,rfl,Co.rep ha.inv (ha.rep r) h⟩
  | cell r t =>
    obtain ⟨id,o,n,kb,et,cs,h0,ho,h⟩:=h
    have h1:=ha.rep r;rw [h0] at h1
    obtain ⟨hid,b,hb,hv⟩:=h1
    obtain ⟨b',e,us,h2,h3,h4,h5,h6,h7,_⟩:=ha.inv.ob id _ ho
    rw [hb] at h2;injection h2 with h2;subst h2
    rcases h with ⟨ht,hl,ds,hs,rfl⟩ | ⟨ht,s,hs,hc⟩
    · have hrun:=run_loadCells_list (P:=P) w ⟨b,o,none⟩ ((us.toList.drop o).take n) (fun j v hj=>by
        rw [List.getElem?_take] at hj
        split at hj
        · rw [Addr.add_lit,cell_of_row w b _ us e (0,0) h3]
          simpa using hj
        · cases hj)
      have hlen : ((us.toList.drop o).take n).length = n:=by rw [List.length_take,List.length_drop,Array.length_toList];omega
      rw [hlen] at hrun
      have e1:=hs.len
      have hcl : ((cs.drop o).take n).length = n:=by rw [List.length_take,List.length_drop];omega
      refine ⟨.agg ((us.toList.drop o).take n).toArray,?_,.agg _ _ (by omega) (fun u hm=>h5 u (Array.mem_toList_iff.1 (List.mem_of_mem_drop (List.mem_of_mem_take hm)))) (fun j u d hj hd=>?_)⟩
      · simp only [zLF,hv,asAddr,loadVar,Sem.run_bind,Sem.run_pure,Result.andThen_ok,(zBf ht w).1,(zBf ht w).2,if_true,hrun]
      · have hjl : j < n:=by
          have:=(List.getElem?_eq_some_iff.1 hj).1;omega
        have hsj : ((cs.drop o).take n)[j]? = some (((cs.drop o).take n)[j]'(by omega)):=List.getElem?_eq_getElem (by omega)
        refine Co.rep ha.inv (h6 (o + j) u _ ?_ ?_) (hs.get j _ d hsj hd)
        · rw [List.getElem?_take,if_pos hjl] at hj;simpa using hj
        · rw [← hsj,List.getElem?_take,if_pos hjl];simp
    · have hlt : o < us.size:=by rw [h4];exact (List.getElem?_eq_some_iff.1 hs).1
      refine ⟨us[o],?_,Co.rep ha.inv (h6 o _ _ (Array.getElem?_eq_getElem hlt) hs) hc⟩
      have hcell : w.cell? ⟨b,o,none⟩ = some us[o]:=by rw [cell_of_row w b o us e (0,0) h3];exact Array.getElem?_eq_getElem hlt
      simp [zLF,hv,asAddr,loadVar,(zBf ht w).1,hcell]
theorem RVals.run {P : Program} {σ : Sl} {η : List Ob} {g : Gh} {w : World} {a : Act} {C : Ctx} (ha : AbsG C g σ η a w) : ∀ {rs : List ResultVar} {ds : List D},RVals P σ η rs ds → ∃ vs : List Value,rs.length = vs.length ∧ vs.length = ds.length ∧ (∀ (j : Nat) r v,rs[j]? = some r → vs[j]? = some v → (zLF a.tmps r).run P w = .ok v w) ∧ ∀ (j : Nat) v d,vs[j]? = some v → ds[j]? = some d → RepD g.St w v d
  | [],[],_=>⟨[],rfl,rfl,fun j r v h=>by simp at h,fun j v d h=>by simp at h⟩
  | r :: rs,d :: ds,h=>by
    obtain ⟨v,h1,h2⟩:=h.1.run ha
    obtain ⟨vs,e1,e2,e3,e4⟩:=RVals.run ha h.2
    refine ⟨v :: vs,by simp [e1],by simp [e2],fun j r' v' hr hv=>?_,fun j v' d' hv hd=>?_⟩
    · cases j with
      | zero=>simp at hr hv;subst hr;subst hv;exact h1
      | succ j=>exact e3 j r' v' (by simpa using hr) (by simpa using hv)
    · cases j with
      | zero=>simp at hv hd;subst hv;subst hd;exact h2
      | succ j=>exact e4 j v' d' (by simpa using hv) (by simpa using hd)
  | [],_ :: _,h=>h.elim
  | _ :: _,[],h=>h.elim
theorem ResC.run {rs : Array ResultVar} {σ : Sl} {η : List Ob} {res : D} {P : Program} {fn : Func} {g : Gh} {w : World} {a : Act} {C : Ctx} (hrs : fn.results = rs) (h : ResC P rs σ η res) (ha : AbsG C g σ η a w) : ∃ v,(results fn a.tmps).run P w = .ok v w ∧ RepD g.St w v res:=by
  obtain ⟨rl⟩:=rs
  unfold ResC at h
  split at h
  · rename_i r hr
    simp at hr;subst hr
    obtain ⟨v,h1,h2⟩:=h.run ha
    refine ⟨v,zHd (l:=[r]) (vs:=[v]) hrs rfl (fun j r' v' hr hv=>?_),h2⟩
    cases j with
    | zero=>simp at hr hv;subst hr;subst hv;exact h1
    | succ j=>simp at hr
  · rename_i ds hne
    obtain ⟨vs,e1,e2,e3,e4⟩:=RVals.run ha h
    refine ⟨tupV vs,zHd hrs e1 e3,?_⟩
    have e5 : tupV vs = .tuple vs.toArray:=by
      match vs,rl with
      | [],_=>rfl
      | [v],[r]=>exact absurd rfl (hne r)
      | [v],[]=>simp at e1
      | [v],_ :: _ :: _=>simp at e1
      | v :: u :: r,_=>rfl
    rw [e5];exact .tup vs ds e2 e4
  · exact h.elim
theorem zIR {P : Program} {f : FuncId} {fn : Func} {c : Code} {ds : List D} {res : D} {N : Nat} {rs : Array ResultVar} (hf : P.funcs[f]? = some fn) (hb : fn.body = some c) (hN : fn.ntmps = N) (hrs : fn.results = rs) (hl : Nat.ble ds.length N = true)
    (h : ∀ (w0 : World) (St0 : Stab),awp ⟨P,N,w0,St0,fun _=>False,0⟩ c (zBI P rs res) (zPG ds 0) []) : zAm P f ds res:=by
  intro St w vs hst hgl hrep
  subst hN
  have hl:=Nat.le_of_ble_eq_true hl
  have hlen:=hrep.len
  refine calls_of_wp hf hb (h w St _ ?_ _ _ ?_)
  · intro e σ' η' a' w' hq ⟨g,ha⟩
    have fin : ResC P rs σ' η' res → a'.defers = [] ∧ ∃ v,(results fn a'.tmps).run P w' = .ok v w' ∧ ∃ v_1 St',Ending.returned v = .returned v_1 ∧ RepD St' w' v_1 res ∧ Below w.heap.size w w' ∧ Keep St w St' w' ∧
      (∀ b o,St' b o → St b o ∨ w.heap.size ≤ b) ∧ (∀ b o,St' b o → b < w'.heap.size):=by
      intro hq
      obtain ⟨v,hr,hd⟩:=hq.run (P:=P) hrs ha
      refine ⟨ha.defers,v,hr,v,g.St,rfl,hd,⟨ha.os,ha.tape,ha.output,ha.wsize,fun k hk=>ha.heap k hk (fun h=>h)⟩,ha.keep,fun b o hb=>?_,ha.inv.st⟩
      rcases ha.new b o hb with h1 | h1 | h1
      · exact .inl h1
      · exact .inr h1
      · exact h1.elim
    cases e <;> first | exact fin hq | exact hq.elim
  · refine ⟨⟨St,fun _=>none,fun _=>0,fun _=>0,0⟩,rfl,?_,⟨rfl,fun _ _ h=>by simp at h,fun _ _=>rfl,fun _ _ _ h=>by simp at h,fun _ _ h=>by simp at h,hst,hgl⟩,rfl,rfl,rfl,Nat.le_refl _,fun _ _ _=>rfl,Keep.refl St w,fun _ _ h=>.inl h,fun _ _ h=>by simp at h,?_⟩
    · simp [hlen];omega
    · refine zG6 vs ds 0 _ hrep fun j v hj=>?_
      have hjl : j < vs.length:=(List.getElem?_eq_some_iff.1 hj).1
      simp only [Nat.zero_add,Array.getD_eq_getD_getElem?]
      rw [Array.getElem?_append_left (by simpa using hjl)]
      simp [hj]
theorem zLJ {P : Program} {f : FuncId} {fn : Func} {c : Code} {as : List SV} {pre : List Ob} {res : D} {N : Nat} {rs : Array ResultVar} (hf : P.funcs[f]? = some fn) (hb : fn.body = some c) (hN : fn.ntmps = N) (hrs : fn.results = rs) (hl : Nat.ble as.length N = true)
    (h : ∀ (w0 : World) (St0 : Stab),awp ⟨P,N,w0,St0,fun _=>False,pre.length⟩ c (zBI P rs res) (zMc as 0) pre) : zBA P f as pre res:=by
  intro g w vs hi hrep
  subst hN
  have hl:=Nat.le_of_ble_eq_true hl
  have hlen:=hrep.len
  refine calls_of_wp hf hb (h w g.St _ ?_ _ _ ?_)
  · intro e σ' η' a' w' hq ⟨g',ha⟩
    have fin : ResC P rs σ' η' res → a'.defers = [] ∧ ∃ v,(results fn a'.tmps).run P w' = .ok v w' ∧ ∃ v_1 St',Ending.returned v = .returned v_1 ∧ RepD St' w' v_1 res ∧ Below w.heap.size w w' ∧ Keep g.St w St' w' ∧
      (∀ b o,St' b o → g.St b o ∨ w.heap.size ≤ b) ∧ (∀ b o,St' b o → b < w'.heap.size):=by
      intro hq
      obtain ⟨v,hr,hd⟩:=hq.run (P:=P) hrs ha
      refine ⟨ha.defers,v,hr,v,g'.St,rfl,hd,⟨ha.os,ha.tape,ha.output,ha.wsize,fun k hk=>ha.heap k hk (fun h=>h)⟩,ha.keep,fun b o hb=>?_,ha.inv.st⟩
      rcases ha.new b o hb with h1 | h1 | h1
      · exact .inl h1
      · exact .inr h1
      · exact h1.elim
    cases e <;> first | exact fin hq | exact hq.elim
  · refine ⟨g,rfl,?_,hi,rfl,rfl,rfl,Nat.le_refl _,fun _ _ _=>rfl,Keep.refl g.St w,fun _ _ h=>.inl h,fun i b hb hr=>?_,?_⟩
    · simp [hlen];omega
    · exfalso
      have h1 : pre.length ≤ i:=hr
      have h2:=hi.dead i (by rw [hi.n];exact h1)
      rw [hb] at h2;cases h2
    · refine zFV vs as 0 _ hrep fun j v hj=>?_
      have hjl : j < vs.length:=(List.getElem?_eq_some_iff.1 hj).1
      simp only [Nat.zero_add,Array.getD_eq_getD_getElem?]
      rw [Array.getElem?_append_left (by simpa using hjl)]
      simp [hj]
end Go.Sx
namespace Go.Sx
open Go.RowKit Go.Lib
section
variable {C : Ctx} {ops : Array Oper} {rest : List Oper} {K : Sl → List Ob → Prop} {σ : Sl} {η : List Ob}
theorem zRT (id : Nat) {e sz : Nat} (ho : η[id]? = some (.buf false e sz [])) (h : alex C false ops rest K σ (η.set id (.buf true e sz []))) : alex C false ops rest K σ η:=by
  intro Q hQ a w ⟨g,ha⟩
  refine h Q hQ a w ⟨g, { ha with inv:={ ha.inv with n:=by rw [List.length_set];exact ha.inv.n,ob:=fun i o hi=>?_ } }⟩
  rw [List.getElem?_set] at hi
  split at hi
  · rename_i hc;subst hc
    split at hi
    · injection hi with hi;subst hi
      obtain ⟨h1,h2,h3,h4,h5⟩:=ha.inv.ob id _ ho
      refine ⟨h1,h2,h3,h4,h5.imp (fun h=>h) ?_⟩
      rintro ⟨b,us,g1,g2,g3,g4,g5,g6⟩
      exact ⟨b,us,g1,g2,g3,g4,g5,fun o=>by rw [g6];simp⟩
    · cases hi
  · exact ha.inv.ob i o hi
end
end Go.Sx
namespace Go.Sx
open Go.RowKit
section
variable {κ : Type} [DecidableEq κ]
def zCW : List (κ × D) → κ → Option D
  | [],_=>none
  | (k,d) :: r,a=>if k = a then some d else zCW r a
def putK : List (κ × D) → κ → D → List (κ × D)
  | [],a,d=>[(a,d)]
  | (k,e) :: r,a,d=>if k = a then (k,d) :: r else (k,e) :: putK r a d
def idxK : List (κ × D) → κ → Nat
  | [],_=>0
  | (k,_) :: r,a=>if k = a then 0 else idxK r a + 1
def kvs (enc : κ → Value) (L : List (κ × D)) : List (Value × D):=L.map fun p=>(enc p.1,p.2)
omit [DecidableEq κ] in
theorem zIX {enc : κ → Value} {L : List (κ × D)} : (kvs enc L).length = L.length:=by simp [kvs]
omit [DecidableEq κ] in
theorem zHS {enc : κ → Value} {L : List (κ × D)} {j : Nat} : (kvs enc L)[j]? = (L[j]?).map fun p=>(enc p.1,p.2):=by simp [kvs]
theorem zEB : ∀ {L : List (κ × D)} {a : κ} {d : D},zCW L a = some d → L[idxK L a]? = some (a,d) ∧ ∀ e,putK L a e = L.set (idxK L a) (a,e)
  | [],_,_,h=>by cases h
  | (k,e) :: r,a,d,h=>by
    unfold zCW at h
    unfold idxK
    split at h
    · rename_i hk
      injection h with h;subst h;subst hk
      exact ⟨by simp,fun e'=>by simp [putK]⟩
    · rename_i hk
      obtain ⟨h1,h2⟩:=zEB h
      exact ⟨by simp [hk,h1],fun e'=>by simp [putK,hk,h2]⟩
theorem zHR : ∀ {L : List (κ × D)} {a : κ},zCW L a = none → (∀ p ∈ L,p.1 ≠ a) ∧ (∀ e,putK L a e = L ++ [(a,e)]) ∧ idxK L a = L.length
  | [],_,_=>⟨by simp,fun e=>rfl,rfl⟩
  | (k,e) :: r,a,h=>by
    unfold zCW at h
    split at h
    · cases h
    · rename_i hk
      obtain ⟨h1,h2,h3⟩:=zHR h
      exact ⟨fun p hp=>by rcases List.mem_cons.1 hp with rfl | hp;exact hk;exact h1 p hp,fun e'=>by simp [putK,hk,h2],by simp [idxK,hk,h3]⟩
structure KeyOk (P : Program) (K : TypeId) (enc : κ → Value) : Prop where
  ex : ∃ kind,P.underlying K = some kind ∧ (∀ a,MapKept.IsKey kind (enc a)) ∧ (∀ a b,Instr.sameNow kind (enc a) (enc b) = some (decide (a = b))) ∧ ∀ a,Instr.sameBits 10000 (enc a) (enc a) = true
theorem zEv {kind : TypeDesc} {enc : κ → Value} (hs : ∀ a b,Instr.sameNow kind (enc a) (enc b) = some (decide (a = b))) (a : κ) : ∀ (es : List MapEntry) (L : List (κ × D)) (i : Nat),es.length = L.length →
    (∀ (j : Nat) e p,es[j]? = some e → L[j]? = some p → e.key = enc p.1) →
    (zCW L a = none ∧ Instr.findNow kind (enc a) es i = some none) ∨ ∃ e d,es[idxK L a]? = some e ∧ zCW L a = some d ∧ Instr.findNow kind (enc a) es i = some (some (i + idxK L a,e.val))
  | [],[],i,_,_=>.inl ⟨rfl,rfl⟩
  | e :: es,(k,d) :: L,i,hl,h=>by
    have hk:=h 0 e (k,d) rfl rfl
    have h1:=hs a k
    simp only at hk
    unfold Instr.findNow
    rw [hk,h1]
    by_cases hc : k = a
    · subst hc
      exact .inr ⟨e,d,by simp [idxK],by simp [zCW],by simp [idxK]⟩
    · have hc' : ¬ a = k:=fun e=>hc e.symm
      simp only [hc',decide_false]
      rcases zEv hs a es L (i + 1) (by simpa using hl) (fun j e p he hp=>h (j + 1) e p (by simpa using he) (by simpa using hp)) with ⟨h2,h3⟩ | ⟨e2,d2,h2,h3,h4⟩
      · exact .inl ⟨by simp [zCW,hc,h2],h3⟩
      · exact .inr ⟨e2,d2,by simp [idxK,hc,h2],by simp [zCW,hc,h3],by rw [h4];simp [idxK,hc];omega⟩
  | [],_ :: _,_,hl,_=>by simp at hl
  | _ :: _,[],_,hl,_=>by simp at hl
end
theorem zQV {P : Program} {K : TypeId} {q : IntKind} (h : P.underlying K = some (.int q)) : KeyOk P K (fun a : Int=>Value.int q a) :=
  ⟨_,h,fun _=>rfl,fun a b=>by simp only [Instr.sameNow,if_true];rfl,fun a=>by simp [Instr.sameBits]⟩
theorem zOI (a b : List UInt8) : ((⟨a.toArray⟩ : ByteArray) == ⟨b.toArray⟩) = decide (a = b):=by
  show (a.toArray == b.toArray) = decide (a = b)
  by_cases h : a = b
  · subst h;simp
  · simp [h]
theorem zPk {P : Program} {K : TypeId} (h : P.underlying K = some .string) : KeyOk P K (fun l : List UInt8=>Value.string ⟨l.toArray⟩) :=
  ⟨_,h,fun _=>trivial,fun a b=>by simp only [Instr.sameNow,zOI],fun a=>by simp only [Instr.sameBits,zOI,decide_true]⟩
def zDk (P : Program) (t : TypeId) : Option (TypeId × TypeId) :=
  match P.underlying t with
  | some (.map k e)=>some (k,e)
  | _=>none
theorem zCp {P : Program} {t k e : TypeId} (h : zDk P t = some (k,e)) : P.underlying t = some (.map k e):=by
  unfold zDk at h
  split at h
  · rename_i hu;simp only [Option.some.injEq,Prod.mk.injEq] at h;rw [hu,h.1,h.2]
  · cases h
def zGM (P : Program) (e : TypeId) : Option D :=
  match P.info? e with
  | some i=>match i.zero with
    | some z=>match z.oneCell' with
      | true=>some (zdv z)
      | false=>none
    | none=>none
  | none=>none
theorem zKw {P : Program} {e : TypeId} {zd : D} (h : zGM P e = some zd) : ∃ z,(∀ w,(zeroValue e).run P w = .ok z w) ∧ ∀ St w,RepD St w z zd:=by
  unfold zGM at h
  split at h
  · rename_i i hi
    split at h
    · rename_i z hz
      split at h
      · injection h with h;subst h
        exact ⟨z,fun w=>by simp [zeroValue,typeInfo,hi,hz],fun St w=>zJr St w z⟩
      · cases h
    · cases h
  · cases h
section
variable {P : Program} {η : List Ob} {σ : Sl} {dst : Option Nat} {ty : TypeId} {pos : String} {after : Array Edge} {gd : Option (Nat × Bool)} {t : TypeId} {x y : Operand} {κ : Type} [DecidableEq κ] {enc : κ → Value}
theorem zFo {i : Nat} (h : oval σ x = .mp i) : Ylds P η σ ⟨dst,.move x,ty,pos,after,gd⟩ (.mp i):=zFq (.inl rfl) h
theorem zGJ {a b : SV} (hx : oval σ x = .pair a b) : Ylds P η σ ⟨dst,.extract x 0,ty,pos,after,gd⟩ a:=by
  refine Ylds.same fun g w ac hi h=>?_
  have h1:=h x (by simp [Op.operands]);rw [hx] at h1
  obtain ⟨u1,u2,hv,h2,h3⟩:=h1
  exact ⟨u1,by simp [execOp,hv,Instr.extract],h2⟩
theorem zGI {a b : SV} (hx : oval σ x = .pair a b) : Ylds P η σ ⟨dst,.extract x 1,ty,pos,after,gd⟩ b:=by
  refine Ylds.same fun g w ac hi h=>?_
  have h1:=h x (by simp [Op.operands]);rw [hx] at h1
  obtain ⟨u1,u2,hv,h2,h3⟩:=h1
  exact ⟨u2,by simp [execOp,hv,Instr.extract],h3⟩
theorem zSV {g : Gh} {w : World} {id : Nat} {kb : Option Nat} {l : List (Value × D)} : ObOk g w id (.map kb l) ↔ ∃ b es,g.blk id = some b ∧ w.heap[b]? = some (.map es l.length) ∧ es.size = l.length ∧
    (∀ (j : Nat) (e : MapEntry) (p : Value × D),es[j]? = some e → l[j]? = some p → e.born = j ∧ e.key = p.1 ∧ RepD g.St w e.val p.2) ∧ (∀ o,¬ g.St b o) ∧ ∀ c,kb = some c → c = b:=by
  constructor
  · rintro ⟨b,es,ck,h1,h2,h3,h4,h5,h6,h7⟩
    obtain ⟨rfl,h8⟩:=h7 rfl
    exact ⟨b,es,h1,h2,h3,fun j e p he hp=>⟨h8 j e he,h4 j e p he hp⟩,h5,h6⟩
  · rintro ⟨b,es,h1,h2,h3,h4,h5,h6⟩
    refine ⟨b,es,_,h1,h2,h3,fun j e p he hp=>(h4 j e p he hp).2,h5,h6,fun _=>⟨rfl,fun j e he=>?_⟩⟩
    have hj : j < l.length:=by rw [← h3];exact (Array.getElem?_eq_some_iff.1 he).1
    exact (h4 j e _ he (List.getElem?_eq_getElem hj)).1
omit [DecidableEq κ] in
theorem zTd {g : Gh} {w : World} {id : Nat} {kb : Option Nat} {L : List (κ × D)} (h : ObOk g w id (.map kb (kvs enc L))) : ∃ b es,g.blk id = some b ∧ w.heap[b]? = some (.map es L.length) ∧ es.toList.length = L.length ∧
    (∀ (j : Nat) e p,es.toList[j]? = some e → L[j]? = some p → e.key = enc p.1) ∧ (∀ (j : Nat) e p,es.toList[j]? = some e → L[j]? = some p → e.born = j ∧ RepD g.St w e.val p.2) ∧ ∀ o,¬ g.St b o:=by
  obtain ⟨b,es,h1,h2,h3,h4,h5,_⟩:=zSV.1 h
  rw [zIX] at h2 h3
  refine ⟨b,es,h1,h2,by simpa using h3,fun j e p he hp=>?_,fun j e p he hp=>?_,h5⟩
  · exact (h4 j e (enc p.1,p.2) (by simpa using he) (by rw [zHS,hp];rfl)).2.1
  · have:=h4 j e (enc p.1,p.2) (by simpa using he) (by rw [zHS,hp];rfl);exact ⟨this.1,this.2.2⟩
theorem zNs {g : Gh} {w : World} {id k e : Nat} {kb : Option Nat} {L : List (κ × D)} {zd : D} (h : ObOk g w id (.map kb (kvs enc L))) (ht : zDk P t = some (k,e)) (hk : KeyOk P k enc) (hz : zGM P e = some zd) (a : κ) (c : Bool) :
    ∃ b v,g.blk id = some b ∧ (Instr.lookup t (.map (some b)) (enc a) c).run P w = .ok (if c then .tuple #[v,.bool (zCW L a).isSome] else v) w ∧ RepD g.St w v ((zCW L a).getD zd):=by
  obtain ⟨b,es,h1,h2,h3,h4,h5,_⟩:=zTd h
  obtain ⟨kind,k1,k2,k3,k4⟩:=hk.ex
  obtain ⟨z,z1,z2⟩:=zKw hz
  have hck:=MapKept.run_checkKey (w:=w) k1 (k2 a) es.isEmpty 9999
  rcases zEv k3 a es.toList L 0 h3 h4 with ⟨f1,f2⟩ | ⟨e0,d0,f1,f2,f3⟩
  · refine ⟨b,z,h1,?_,by rw [f1];exact z2 _ _⟩
    simp only [Instr.lookup,Sem.run_bind,run_underlying (zCp ht),MapKept.run_getObj_map h2,hck,MapKept.run_findKey k1 f2,z1,f1,Result.andThen,Sem.run_pure]
    cases c <;> rfl
  · have hp:=(zEB f2).1
    refine ⟨b,e0.val,h1,?_,by rw [f2];exact (h5 _ _ _ f1 hp).2⟩
    simp only [Instr.lookup,Sem.run_bind,run_underlying (zCp ht),MapKept.run_getObj_map h2,hck,MapKept.run_findKey k1 f3,f2,Result.andThen,Sem.run_pure]
    cases c <;> rfl
theorem zUw {id k e : Nat} {kb : Option Nat} {L : List (κ × D)} {a : κ} {zd : D} (hx : oval σ x = .mp id) (ho : η[id]? = some (.map kb (kvs enc L))) (hy : oval σ y = .d (.val (enc a))) (ht : zDk P t = some (k,e)) (hk : KeyOk P k enc) (hz : zGM P e = some zd) :
    Ylds P η σ ⟨dst,.lookup t x y false,ty,pos,after,gd⟩ (.d ((zCW L a).getD zd)):=by
  refine Ylds.same fun g w ac hi h=>?_
  have h1:=h x (by simp [Op.operands]);rw [hx] at h1
  have h2:=h y (by simp [Op.operands]);rw [hy] at h2
  obtain ⟨_,b,hb,hv⟩:=h1
  obtain ⟨b',v,hb',hr,hd⟩:=zNs (hi.ob id _ ho) ht hk hz a false
  rw [hb] at hb';injection hb' with hb';subst hb'
  exact ⟨v,by simp only [execOp,hv,RepD.val_eq h2,Sem.run_bind,hr];rfl,hd⟩
theorem zRf {id k e : Nat} {kb : Option Nat} {L : List (κ × D)} {a : κ} {zd : D} (hx : oval σ x = .mp id) (ho : η[id]? = some (.map kb (kvs enc L))) (hy : oval σ y = .d (.val (enc a))) (ht : zDk P t = some (k,e)) (hk : KeyOk P k enc) (hz : zGM P e = some zd) :
    Ylds P η σ ⟨dst,.lookup t x y true,ty,pos,after,gd⟩ (.d (.tup [(zCW L a).getD zd,.val (.bool (zCW L a).isSome)])):=by
  refine Ylds.same fun g w ac hi h=>?_
  have h1:=h x (by simp [Op.operands]);rw [hx] at h1
  have h2:=h y (by simp [Op.operands]);rw [hy] at h2
  obtain ⟨_,b,hb,hv⟩:=h1
  obtain ⟨b',v,hb',hr,hd⟩:=zNs (hi.ob id _ ho) ht hk hz a true
  rw [hb] at hb';injection hb' with hb';subst hb'
  refine ⟨.tuple #[v,.bool (zCW L a).isSome],by simp only [execOp,hv,RepD.val_eq h2,Sem.run_bind,hr];rfl,.tup [_,_] _ rfl fun j u d hu hd'=>?_⟩
  match j with
  | 0=>simp at hu hd';subst hu;subst hd';exact hd
  | 1=>simp at hu hd';subst hu;subst hd';exact .val _
  | j + 2=>simp at hu
theorem zUx {id k e : Nat} {q : IntKind} {kb : Option Nat} {L : List (Int × D)} {a : Int} {zd : D} (hx : oval σ x = .mp id) (ho : η[id]? = some (.map kb (kvs (fun a=>.int q a) L))) (hy : oval σ y = .d (.val (.int q a))) (ht : zDk P t = some (k,e)) (hk : P.underlying k = some (.int q)) (hz : zGM P e = some zd) :
    Ylds P η σ ⟨dst,.lookup t x y false,ty,pos,after,gd⟩ (.d ((zCW L a).getD zd)):=zUw hx ho hy ht (zQV hk) hz
theorem zMM {id k e : Nat} {q : IntKind} {kb : Option Nat} {L : List (Int × D)} {a : Int} {zd : D} (hx : oval σ x = .mp id) (ho : η[id]? = some (.map kb (kvs (fun a=>.int q a) L))) (hy : oval σ y = .d (.val (.int q a))) (ht : zDk P t = some (k,e)) (hk : P.underlying k = some (.int q)) (hz : zGM P e = some zd) :
    Ylds P η σ ⟨dst,.lookup t x y true,ty,pos,after,gd⟩ (.d (.tup [(zCW L a).getD zd,.val (.bool (zCW L a).isSome)])):=zRf hx ho hy ht (zQV hk) hz
end
section
variable {C : Ctx} {ops : Array Oper} {rest : List Oper} {K : Sl → List Ob → Prop} {σ : Sl} {η : List Ob} {d : Nat} {ty : TypeId} {pos : String} {after : Array Edge} {gd : Option (Nat × Bool)} {t : TypeId} {x y z : Operand}
theorem AbsG.setObj {g : Gh} {a : Act} {w w' : World} (h : AbsG C g σ η a w) {id b : Nat} {o : Ob} (hidl : id < η.length) (hb : g.blk id = some b) (hro : C.ro ≤ id) (hst : ∀ o,¬ g.St b o)
    (os : w'.os = w.os) (tape : w'.tape = w.tape) (output : w'.output = w.output) (hsz : w'.heap.size = w.heap.size) (hoth : ∀ k,k ≠ b → w'.heap[k]? = w.heap[k]?)
    (ok : Keep g.St w g.St w' → ObOk g w' id o) : AbsG C g σ (η.set id o) a w':=by
  have kp : Keep g.St w g.St w':=⟨fun _ _ h=>h,fun c o u hc hu=>(World.cell?_of_block (a:=⟨c,o,none⟩) (hoth c (fun e=>hst o (e ▸ hc)))).trans hu,fun c hc=>hoth c (fun e=>hst 0 (e ▸ hc 0))⟩
  have rk : ∀ {v : Value} {s' : SV},RepS g w v s' → RepS g w' v s':=fun r=>r.ext kp (fun _ _=>⟨rfl,rfl,rfl⟩) (Nat.le_refl _)
  refine ⟨h.defers,h.size,⟨by rw [List.length_set];exact h.inv.n,fun i c hc=>by rw [hsz];exact h.inv.lt i c hc,h.inv.dead,h.inv.inj,fun i o' ho=>?_,fun c o hc=>by rw [hsz];exact h.inv.st c o hc,h.inv.gl.keep kp⟩,os.trans h.os,tape.trans h.tape,output.trans h.output,by rw [hsz];exact h.wsize,
    fun k hk hx=>?_,h.keep.trans kp,h.new,h.own,fun t=>rk (h.rep t)⟩
  · rw [List.getElem?_set] at ho
    split at ho
    · rename_i hc;subst hc
      try rw [if_pos hidl] at ho
      injection ho with ho;subst ho
      exact ok kp
    · rename_i hc
      refine (h.inv.ob i o' ho).ext kp (fun _ _=>⟨rfl,rfl,rfl⟩) (Nat.le_refl _) (by rw [h.inv.n];exact (List.getElem?_eq_some_iff.1 ho).1) (fun c hcb=>⟨hoth c (fun e=>?_),fun _=>Iff.rfl⟩)
      subst e
      exact hc (h.inv.inj id i c hb hcb)
  · rw [hoth k (fun e=>?_)]
    · exact h.heap k hk hx
    · subst e
      rcases h.own id k hb hro with h2 | h2
      · omega
      · exact hx h2
theorem AbsG.allocOb {g : Gh} {a : Act} {w : World} (ha : AbsG C g σ η a w) (ob : Obj) (o : Ob) (s : SV) (v : Value) (hd : Nat.blt d C.N = true) (hro : C.ro ≤ η.length)
    (ok : ∀ g' : Gh,g'.n = g.n + 1 → g'.blk g.n = some w.heap.size → (∀ id,id < g.n → g'.blk id = g.blk id) → g'.St = g.St → (∀ o,¬ g'.St w.heap.size o) → ObOk g' (w.alloc ob) g.n o ∧ RepS g' (w.alloc ob) v s) :
    Abs C ((d,s) :: σ) (η ++ [o]) (a.put (some d) v) (w.alloc ob):=by
  have hn:=ha.inv.n
  let g' : Gh:={ g with blk:=upd g.blk g.n (some w.heap.size),n:=g.n + 1 }
  have hold : ∀ id,id < g.n → g'.blk id = g.blk id ∧ g'.cap id = g.cap id ∧ g'.sz id = g.sz id:=fun id hid=>⟨by simp [g',upd,Nat.ne_of_lt hid],rfl,rfl⟩
  have hbn : g'.blk g.n = some w.heap.size:=by simp [g',upd]
  obtain ⟨ok1,ok2⟩:=ok g' rfl hbn (fun id hid=>(hold id hid).1) rfl (fun o ho=>absurd (ha.inv.st _ o ho) (by omega))
  have hab:=ha.newOb (g':=g') (w':=w.alloc ob) o rfl rfl rfl (by simp) (fun k hk=>Below.heap_alloc w _ k hk) rfl hold
    (fun id hid=>by
      have hne : id ≠ g.n:=by omega
      simp only [g',upd,if_neg hne]
      exact ha.inv.dead id (by omega)) (fun b hb=>by rw [hbn] at hb;injection hb with hb;subst hb;simp) (fun _ _ h=>h) (fun _ _ h=>.inl h) (fun b o hb=>Nat.lt_of_lt_of_le (ha.inv.st b o hb) (by simp)) (by rw [hn];exact hro) ok1
  exact ⟨g',hab.put (d:=some d) hd ok2⟩
theorem zVz {g : Gh} {a : Act} {w : World} (ha : AbsG C g σ η a w) (hd : Nat.blt d C.N = true) (hro : C.ro ≤ η.length) :
    Abs C ((d,.mp η.length) :: σ) (η ++ [.map none []]) (a.put (some d) (.map (some w.heap.size))) (w.alloc (.map #[] 0)) :=
  ha.allocOb _ _ _ _ hd hro fun g' hn hb _ _ hst=>⟨zSV.2 ⟨w.heap.size, #[],hb,_root_.Go.heap_alloc_new w _,rfl,fun j e p he=>by simp at he,hst,fun _ h=>(by cases h)⟩,by show η.length < g'.n;rw [hn,ha.inv.n];omega,w.heap.size,by rw [← ha.inv.n];exact hb,rfl⟩
theorem zTG {κ : Type} (enc : κ → Value) (hd : Nat.blt d C.N = true) (hro : Nat.ble C.ro η.length = true) (h : alex C false ops rest K ((d,.mp η.length) :: σ) (η ++ [.map none (kvs enc [])])) :
    zA3 C false ops ⟨some d,.makeMap t none,ty,pos,after,gd⟩ rest K σ η :=
  zHV (fun _ _ _ ha=>⟨_,_,rfl,zVz ha hd (Nat.le_of_ble_eq_true hro)⟩) h
theorem zG8 {k e : Nat} {q : IntKind} (_ht : zDk C.P t = some (k,e)) (_hk : C.P.underlying k = some (.int q)) (hd : Nat.blt d C.N = true) (hro : Nat.ble C.ro η.length = true) (h : alex C false ops rest K ((d,.mp η.length) :: σ) (η ++ [.map none (kvs (fun a=>.int q a) [])])) :
    zA3 C false ops ⟨some d,.makeMap t none,ty,pos,after,gd⟩ rest K σ η:=zTG _ hd hro h
section
variable {κ : Type} [DecidableEq κ] {enc : κ → Value}
omit [DecidableEq κ] in
theorem AbsG.setMap {g : Gh} {a : Act} {w : World} (ha : AbsG C g σ η a w) {id b : Nat} {kb : Option Nat} {L L' : List (κ × D)} {es' : Array MapEntry} (ho : η[id]? = some (.map kb (kvs enc L))) (hb : g.blk id = some b) (hro : C.ro ≤ id)
    (hsz : es'.size = L'.length) (hes : ∀ (j : Nat) e p,es'[j]? = some e → L'[j]? = some p → e.born = j ∧ e.key = enc p.1 ∧ RepD g.St w e.val p.2) :
    AbsG C g σ (η.set id (.map kb (kvs enc L'))) a { w with heap:=w.heap.setIfInBounds b (.map es' L'.length) }:=by
  obtain ⟨b',es,h1,h2,h3,h4,h5,h6⟩:=zSV.1 (ha.inv.ob id _ ho)
  rw [hb] at h1;injection h1 with h1;subst h1
  have hbl:=ha.inv.lt id b hb
  refine ha.setObj (List.getElem?_eq_some_iff.1 ho).1 hb hro h5 rfl rfl rfl (by simp) (fun k hk=>by simp [Array.getElem?_setIfInBounds_ne (fun e=>hk e.symm)]) fun kp=>zSV.2 ⟨b,es',hb,by rw [zIX];simp [hbl],by rw [zIX];exact hsz,fun j e p he hp=>?_,h5,h6⟩
  rw [zHS] at hp
  cases hq : L'[j]? with
  | none=>simp [hq] at hp
  | some p0 =>
    simp [hq] at hp;subst hp
    obtain ⟨q1,q2,q3⟩:=hes j e p0 he hq
    exact ⟨q1,q2,q3.keep kp⟩
theorem zLG {P : Program} {w : World} {v : Value} (h : Instr.sameBits 10000 v v = true) : (Instr.keyThatStays v v).run P w = .ok v w:=by
  simp [Instr.keyThatStays,h]
theorem zUt {id k e : Nat} {kb : Option Nat} {L : List (κ × D)} {a : κ} {dv : D} (hx : oval σ x = .mp id) (ho : η[id]? = some (.map kb (kvs enc L))) (hy : oval σ y = .d (.val (enc a))) (hz : Co η (oval σ z) dv) (ht : zDk C.P t = some (k,e)) (hk : KeyOk C.P k enc) (hro : Nat.ble C.ro id = true)
    (h : alex C false ops rest K σ (η.set id (.map kb (kvs enc (putK L a dv))))) : zA3 C false ops ⟨none,.mapUpdate t x y z,ty,pos,after,gd⟩ rest K σ η:=by
  refine zLw (fun g ac w ha=>?_) h
  have h1:=ha.eval x;rw [hx] at h1
  have h2:=ha.eval y;rw [hy] at h2
  have hzr:=hz.rep ha.inv (ha.eval z)
  obtain ⟨_,b,hb,hv⟩:=h1
  obtain ⟨b',es,m1,m2,m3,m4,m5,m6⟩:=zTd (ha.inv.ob id _ ho)
  rw [hb] at m1;injection m1 with m1;subst m1
  obtain ⟨kind,k1,k2,k3,k4⟩:=hk.ex
  have hck:=MapKept.run_checkKey (w:=w) k1 (k2 a) false 9999
  have m3' : es.size = L.length:=by simpa using m3
  rcases zEv k3 a es.toList L 0 m3 m4 with ⟨f1,f2⟩ | ⟨e0,d0,f1,f2,f3⟩
  · obtain ⟨q1,q2,q3⟩:=zHR f1
    have hset:=ha.setMap (L':=L ++ [(a,dv)]) (es':=es.push { key:=enc a,val:=ac.eval z,born:=L.length }) ho hb (Nat.le_of_ble_eq_true hro) (by simp [m3']) (fun j e p he hp=>by
      rw [Array.getElem?_push] at he
      split at he
      · rename_i hj
        injection he with he;subst he
        rw [hj,m3',List.getElem?_append_right (Nat.le_refl _)] at hp
        simp at hp;subst hp
        exact ⟨hj.trans m3' |>.symm,rfl,hzr⟩
      · rename_i hj
        have hjl : j < L.length:=by have:=(Array.getElem?_eq_some_iff.1 he).1;omega
        rw [List.getElem?_append_left hjl] at hp
        have he' : es.toList[j]? = some e:=by simpa using he
        exact ⟨(m5 j e p he' hp).1,m4 j e p he' hp,(m5 j e p he' hp).2⟩)
    refine ⟨_,?_,g,by rw [q2];exact hset⟩
    rw [List.length_append]
    simp only [execOp,hv,RepD.val_eq h2,Sem.run_bind,Instr.mapUpdate,run_underlying (zCp ht),MapKept.run_getObj_map m2,hck,MapKept.run_findKey k1 f2,MapKept.run_setObj_map _ m2,Result.andThen,Sem.run_pure]
    rfl
  · obtain ⟨q1,q2⟩:=zEB f2
    have hil : idxK L a < L.length:=(List.getElem?_eq_some_iff.1 q1).1
    have hkey : e0.key = enc a:=m4 _ _ _ f1 q1
    have f1' : es[idxK L a]? = some e0:=by simpa using f1
    have hset:=ha.setMap (L':=L.set (idxK L a) (a,dv)) (es':=es.modify (idxK L a) fun e=>{ e with key:=enc a,val:=ac.eval z }) ho hb (Nat.le_of_ble_eq_true hro) (by simp [m3']) (fun j e p he hp=>by
      rw [Array.getElem?_modify] at he
      rw [List.getElem?_set] at hp
      split at he
      · rename_i hj
        subst hj
        rw [if_pos rfl,if_pos hil] at hp
        rw [f1'] at he
        simp at he hp;subst he;subst hp
        exact ⟨(m5 _ _ _ f1 q1).1,rfl,hzr⟩
      · rename_i hj
        rw [if_neg hj] at hp
        have he' : es.toList[j]? = some e:=by simpa using he
        exact ⟨(m5 j e p he' hp).1,m4 j e p he' hp,(m5 j e p he' hp).2⟩)
    refine ⟨_,?_,g,by rw [q2];exact hset⟩
    rw [List.length_set]
    rw [Nat.zero_add] at f3
    have hst : (Instr.keyThatStays (((es[idxK L a]?).map (·.key)).getD (enc a)) (enc a)).run C.P w = .ok (enc a) w:=by
      rw [f1'];simp only [Option.map_some,Option.getD_some,hkey];exact zLG (k4 a)
    simp only [execOp,hv,RepD.val_eq h2,Sem.run_bind,Instr.mapUpdate,run_underlying (zCp ht),MapKept.run_getObj_map m2,hck,MapKept.run_findKey k1 f3,hst,MapKept.run_setObj_map _ m2,Result.andThen,Sem.run_pure]
end
end
end Go.Sx
namespace Go.Sx
open Go.RowKit
def zRu (l : List Oper) (f : Nat → Bool) : Prop:=∀ j o,l[j]? = some o → f j = true → ∀ e ∈ o.after,Region.binds .any e = true → f e.on = true
def Deps (o : Oper) (f : Nat → Bool) : Prop:=∀ e ∈ o.after,Region.binds .any e = true → f e.on = true
theorem zNI {C : Ctx} {l : List Oper} {Q : Exit → Act → World → Prop} {K : Sl → List Ob → Prop} (hQ : ∀ σ' η' a w,K σ' η' → Abs C σ' η' a w → Q .normal a w) (hB : zDv l = true)
    (m : Nat) (hm : m ≤ l.length) (hbar : m = l.length ∨ zFn l.toArray (l.length - m - 1) = true) (I : (Nat → Bool) → Act → World → Prop)
    (hfin : ∀ f a w,(∀ j,j < m → f j = true) → I f a w → ∃ σ η,zBN C l.toArray (l.drop m) K σ η ∧ Abs C σ η a w)
    (hstep : ∀ f j o a w,j < m → l[j]? = some o → f j = false → zRu l f → Deps o f → I f a w →
      (Region.wanted o (yielded l.toArray a.tmps) = true ∧ o.wp C.P a w (I (fun i=>i == j || f i)) Q) ∨ (Region.wanted o (yielded l.toArray a.tmps) = false ∧ I (fun i=>i == j || f i) (a.put o.dst undef) w)) :
    ∀ (fuel : Nat) (listed : Array Bool) (a : Act) (w : World),listed.size = l.length → (listed.toList.filter (! ·)).length ≤ fuel →
      (∀ j o,l[j]? = some o → listed.getD j true = true → ∀ e ∈ o.after,Region.binds .any e = true → listed.getD e.on true = true) →
      (∀ i,m ≤ i → i < l.length → listed.getD i true = false) → I (fun i=>listed.getD i true) a w → wpAny C.P .any l.toArray Q fuel listed a w:=by
  have spec:=zDo hB
  intro fuel
  induction fuel with
  | zero =>
    intro listed a w hsz hc hcl hno hI
    by_cases hall : ∀ j,j < m → listed.getD j true = true
    · obtain ⟨σ,η,h1,h2⟩:=hfin _ a w hall hI
      exact zMS hQ hB (l.length - m) m σ η (by omega) h1 0 listed a w hsz hc hcl hall hno h2
    · exfalso
      apply hall
      intro j hj
      cases hq : listed.getD j true with
      | true=>rfl
      | false =>
        exfalso
        have hxl : j < listed.size:=by omega
        have : false ∈ listed.toList.filter (! ·):=by
          rw [List.mem_filter]
          refine ⟨?_,rfl⟩
          rw [Array.getD_eq_getD_getElem?,Array.getElem?_eq_getElem hxl] at hq
          simp at hq
          rw [← hq];exact Array.mem_toList_iff.2 (Array.getElem_mem hxl)
        have:=List.length_pos_of_mem this
        omega
  | succ fuel ih =>
    intro listed a w hsz hc hcl hno hI
    by_cases hall : ∀ j,j < m → listed.getD j true = true
    · obtain ⟨σ,η,h1,h2⟩:=hfin _ a w hall hI
      exact zMS hQ hB (l.length - m) m σ η (by omega) h1 (fuel + 1) listed a w hsz hc hcl hall hno h2
    · refine ⟨fun hr=>?_,fun j hj=>?_⟩
      · exfalso
        apply hall
        intro j hj
        exact zL2 hB listed hsz hr j (by omega)
      · obtain ⟨hun,oj,hoj,hdep⟩:=mem_ready.1 hj
        have hlj : l[j]? = some oj:=by simpa using hoj
        have hjl : j < l.length:=(List.getElem?_eq_some_iff.1 hlj).1
        have hall' : ∀ e ∈ oj.after,Region.binds .any e = true → listed.getD e.on true = true:=by
          intro e he hb
          have hlt:=(spec j oj hlj).2.1 e he hb
          rw [zLk (by omega)];exact hdep e he hb
        have hjm : j < m:=by
          rcases Nat.lt_or_ge j m with h | h
          · exact h
          · exfalso
            apply hall
            intro i hi
            rcases hbar with hb | hb
            · omega
            · have hml : m < l.length:=by omega
              have hcl' : ∀ j o,l.toArray[j]? = some o → listed.getD j true = true → ∀ e ∈ o.after,Region.binds .any e = true → listed.getD e.on true = true:=fun j o ho=>hcl j o (by simpa using ho)
              simp only [zFn,Bool.and_eq_true] at hb
              obtain ⟨⟨_,hb1⟩,hb2⟩:=hb
              have hk1 : l.toArray.size - 1 - (l.length - m - 1) = m:=by rw [List.size_toArray];omega
              rw [hk1] at hb1
              have hlm : l.toArray[m]? = some l[m]:=by simp [hml]
              rcases Nat.lt_or_ge m j with hmj | hmj
              · exfalso
                have hk2 : l.toArray.size - (l.length - m - 1) + (j - m - 1) = j:=by rw [List.size_toArray];omega
                have:=List.all_eq_true.1 hb2 (j - m - 1) (List.mem_range.2 (by omega))
                rw [hk1,hk2] at this
                have:=zCQ (f:=fun i=>listed.getD i true) hcl' l.toArray.size j oj hoj hall' this
                rw [hno m (Nat.le_refl _) hml] at this;cases this
              · have hmj : j = m:=by omega
                subst hmj
                exact zCQ (f:=fun i=>listed.getD i true) hcl' l.toArray.size j oj hoj hall' (List.all_eq_true.1 hb1 i (List.mem_range.2 hi))
        have cnt : ((listed.setIfInBounds j true).toList.filter (! ·)).length ≤ fuel:=by
          have hjs : j < listed.size:=by omega
          have h0 : listed[j] = false:=by
            rw [Array.getD_eq_getD_getElem?,Array.getElem?_eq_getElem hjs] at hun;simpa using hun
          have e1 : listed.toList = listed.toList.take j ++ false :: listed.toList.drop (j + 1):=by
            conv=>lhs;rw [← List.take_append_drop j listed.toList]
            congr 1
            rw [List.drop_eq_getElem_cons (by simpa using hjs)]
            congr 1
          have e2 : (listed.setIfInBounds j true).toList = listed.toList.take j ++ true :: listed.toList.drop (j + 1):=by
            rw [Array.toList_setIfInBounds,List.set_eq_take_append_cons_drop,if_pos (by simpa using hjs)]
          rw [e1] at hc
          rw [e2]
          simp only [List.filter_append,List.length_append,List.filter_cons,Bool.not_false,if_true,List.length_cons,Bool.not_true,Bool.false_eq_true,if_false] at hc ⊢
          omega
        have pre' : ∀ i o,l[i]? = some o → (listed.setIfInBounds j true).getD i true = true → ∀ e ∈ o.after,Region.binds .any e = true → (listed.setIfInBounds j true).getD e.on true = true:=by
          intro i o hi hli e he hb
          rw [setB listed j _ (by omega)] at hli ⊢
          by_cases hij : i = j
          · subst hij
            rw [hlj] at hi;injection hi with hi;subst hi
            rw [hall' e he hb];simp
          · have hbe : (i == j) = false:=by simpa using hij
            rw [hbe,Bool.false_or] at hli
            rw [hcl i o hi hli e he hb];simp
        have no' : ∀ i,m ≤ i → i < l.length → (listed.setIfInBounds j true).getD i true = false:=fun i h1 h2=>by
          rw [setB listed j i (by omega),hno i h1 h2]
          have : (i == j) = false:=by simp;omega
          rw [this];rfl
        have next : ∀ a' w',I (fun i=>i == j || listed.getD i true) a' w' → wpAny C.P .any l.toArray Q fuel (listed.setIfInBounds j true) a' w':=fun a' w' hI'=>by
          refine ih _ a' w' (by simpa using hsz) cnt pre' no' ?_
          have : (fun i=>(listed.setIfInBounds j true).getD i true) = fun i=>i == j || listed.getD i true:=by funext i;exact setB listed j i (by omega)
          rw [this];exact hI'
        unfold wpOp
        simp only [hoj]
        rcases hstep _ j oj a w hjm hlj hun hcl hall' hI with ⟨h1,h2⟩ | ⟨h1,h2⟩
        · rw [if_pos h1]
          exact .inl (Oper.wp_mono next h2)
        · rw [if_neg (by rw [h1];simp)]
          exact next _ _ h2
theorem zGi {l : List Oper} (hB : zDv l = true) {σ : Sl} {ss : List SV} {f : Nat → Bool} {j : Nat} {oj : Oper} (hlj : l[j]? = some oj) (hun : f j = false) (hcl : zRu l f) (hd : Deps oj f) : ∀ t,t ∈ oj.looksAt l.toArray → get (pst σ 0 l ss f) t = get (pst σ 0 l ss (fun i=>decide (i < j))) t:=by
  have spec:=zDo hB
  intro t ht
  refine zB6 t l ss σ σ 0 _ _ rfl (fun i o hi hne=>?_)
  rw [Nat.zero_add] at hne
  rcases Nat.lt_trichotomy i j with h | h | h
  · have hni : f i = false:=by
      cases hc' : f i with
      | false=>rfl
      | true=>exfalso;simp [hc',h] at hne
    rcases (spec j oj hlj).2.2 i o h hi with ⟨e,he,hb,hon⟩ | hap
    · have:=hd e he hb
      rw [hon,hni] at this;cases this
    · intro hdt;exact (Oper.apart_spec hap).1 t hdt ht
  · exfalso;subst h;simp [hun] at hne
  · have hli : f i = true:=by
      cases hc' : f i with
      | true=>rfl
      | false =>
        exfalso
        have hdd : decide (i < j) = false:=by simp;omega
        simp only [hc',hdd] at hne
        exact hne rfl
    rcases (spec i o hi).2.2 j oj h hlj with ⟨e,he,hb,hon⟩ | hap
    · have:=hcl i o hi hli e he hb
      rw [hon,hun] at this;cases this
    · intro hdt;exact (Oper.apart_spec hap).2.2 t hdt ht
theorem zHt {l : List Oper} (hB : zDv l = true) {σ : Sl} {ss : List SV} {f : Nat → Bool} {j : Nat} {oj : Oper} {sj : SV} (hlj : l[j]? = some oj) (hs : ss[j]? = some sj) (hun : f j = false) (hcl : zRu l f) : ∀ t,get (put (pst σ 0 l ss f) oj.dst sj) t = get (pst σ 0 l ss (fun i=>i == j || f i)) t:=by
  have spec:=zDo hB
  intro t
  have h1:=zNe t j l ss σ 0 f oj sj hlj hs (by rw [Nat.zero_add];exact hun) (fun i o hi hlt' hfi=>by
    rw [Nat.zero_add] at hfi
    rcases (spec i o hi).2.2 j oj (by omega) hlj with ⟨e,he,hb,hon⟩ | hap
    · have:=hcl i o hi hfi e he hb
      rw [hon,hun] at this;cases this
    · cases hdd : oj.dst with
      | none=>exact .inr rfl
      | some d=>exact .inl ((Oper.apart_spec hap).2.1 d hdd))
  rw [h1,Nat.zero_add]
def Fresh (C : Ctx) (g : Gh) (w : World) (v : Value) (cs : List SV) (t : TypeId) : Prop :=
  ∃ b us,v = .pointer (some ⟨b,0,none⟩) ∧ w.heap[b]? = some (.cells us t (0,0)) ∧ us.size = cs.length ∧ (∀ u ∈ us,u.oneCell' = true) ∧ (∀ (j : Nat) (u : Value) (s : SV),us[j]? = some u → cs[j]? = some s → RepS g w u s) ∧
    (∀ o,¬ g.St b o) ∧ (∀ id,g.blk id ≠ some b) ∧ C.w0.heap.size ≤ b ∧ b < w.heap.size
theorem Fresh.grow {C : Ctx} {g g' : Gh} {w w' : World} {v : Value} {cs : List SV} {t : TypeId} (hst : ∀ b o,g.St b o → b < w.heap.size) (h : Fresh C g w v cs t) (k : Grow g w g' w') : Fresh C g' w' v cs t:=by
  obtain ⟨b,us,h1,h2,q1,q2,q3,h3,h4,h5,h6⟩:=h
  refine ⟨b,us,h1,(k.heap b h6).trans h2,q1,q2,fun j u s hu hs=>(q3 j u s hu hs).grow hst k,fun o ho=>?_,fun id=>by rw [k.blk];exact h4 id,h5,Nat.lt_of_lt_of_le h6 k.size⟩
  rcases k.new b o ho with h7 | h7
  · exact h3 o h7
  · omega
theorem AbsG.adopt {C : Ctx} {g : Gh} {σ : Sl} {η : List Ob} {a : Act} {w : World} (h : AbsG C g σ η a w) {d : Nat} {cs : List SV} {t : TypeId} (hf : Fresh C g w (a.tmps.getD d undef) cs t) :
    ∃ g',AbsG C g' ((d,.ptr η.length 0) :: σ) (η ++ [.bx none (some t) cs]) a w ∧ g'.St = g.St ∧ (∀ id b,g'.blk id = some b → g.blk id = some b ∨ a.tmps.getD d undef = .pointer (some ⟨b,0,none⟩)) ∧ ∀ {v : Value} {s : SV},RepS g w v s → RepS g' w v s:=by
  obtain ⟨b,us,f1,f2,z1,z2,z3,f3,f4,f5,f6⟩:=hf
  have hn:=h.inv.n
  let g' : Gh:={ g with blk:=upd g.blk g.n (some b),n:=g.n + 1 }
  have hold : ∀ id,id < g.n → g'.blk id = g.blk id ∧ g'.cap id = g.cap id ∧ g'.sz id = g.sz id:=fun id hid=>⟨by simp [g',upd,Nat.ne_of_lt hid],rfl,rfl⟩
  have hbn : g'.blk g.n = some b:=by simp [g',upd]
  have hb' : ∀ id c,g'.blk id = some c → (id < g.n ∧ g.blk id = some c) ∨ (id = g.n ∧ c = b):=by
    intro id c hc
    rcases Nat.lt_trichotomy id g.n with hi | hi | hi
    · rw [(hold id hi).1] at hc;exact .inl ⟨hi,hc⟩
    · subst hi;rw [hbn] at hc;injection hc with hc;exact .inr ⟨rfl,hc.symm⟩
    · have hne : id ≠ g.n:=by omega
      simp only [g',upd,if_neg hne] at hc
      rw [h.inv.dead id (by omega)] at hc;cases hc
  have kp:=Keep.refl g.St w
  have rx : ∀ {v : Value} {s : SV},RepS g w v s → RepS g' w v s:=fun r=>r.ext (g':=g') kp hold (Nat.le_succ _)
  refine ⟨g',⟨h.defers,h.size,⟨by rw [List.length_append];show g.n + 1 = _;rw [hn];rfl,fun id c hc=>?_,fun id hid=>?_,fun i j c hi hj=>?_,fun id o ho=>?_,h.inv.st,h.inv.gl⟩,h.os,h.tape,h.output,h.wsize,h.heap,h.keep,h.new,fun id c hc hr=>?_,fun u=>?_⟩,rfl,fun id c hc=>?_,rx⟩
  · rcases hb' id c hc with ⟨_,q⟩ | ⟨_,rfl⟩
    · exact h.inv.lt id c q
    · exact f6
  · have hid : g.n + 1 ≤ id:=hid
    have hne : id ≠ g.n:=by omega
    simp only [g',upd,if_neg hne];exact h.inv.dead id (by omega)
  · rcases hb' i c hi with ⟨q1,q2⟩ | ⟨q1,q2⟩ <;> rcases hb' j c hj with ⟨q3,q4⟩ | ⟨q3,q4⟩
    · exact h.inv.inj i j c q2 q4
    · exact absurd (q4 ▸ q2) (f4 i)
    · exact absurd (q2 ▸ q4) (f4 j)
    · omega
  · rw [List.getElem?_append] at ho
    split at ho
    · rename_i hc
      exact (h.inv.ob id o ho).ext (g':=g') kp hold (Nat.le_succ _) (by omega) (fun _ _=>⟨rfl,fun _=>Iff.rfl⟩)
    · rename_i hc
      have hid : id = g.n:=by
        have:=(List.getElem?_eq_some_iff.1 ho).1
        simp at this;omega
      subst hid
      have : g.n - η.length = 0:=by omega
      rw [this] at ho
      simp at ho;subst ho
      exact ⟨b,t,us,hbn,f2,z1,z2,fun j u s hu hs=>rx (z3 j u s hu hs),f3,fun _ h=>(by cases h),fun _ h=>(Option.some.inj h).symm⟩
  · rcases hb' id c hc with ⟨_,q⟩ | ⟨_,rfl⟩
    · exact h.own id c q hr
    · exact .inl f5
  · rw [zBU]
    split
    · rename_i e;subst e
      refine ⟨by show η.length < g.n + 1;omega,b,by rw [← hn];exact hbn,f1⟩
    · exact rx (h.rep u)
  · rcases hb' id c hc with ⟨_,q⟩ | ⟨_,rfl⟩
    · exact .inl q
    · exact .inr f1
theorem AbsG.other {C : Ctx} {g : Gh} {σ : Sl} {η : List Ob} {a : Act} {w : World} (h : AbsG C g σ η a w) {b : Nat} (us' : Array Value) (hst : ∀ o,¬ g.St b o) (hb : ∀ id,g.blk id ≠ some b) (h0 : C.w0.heap.size ≤ b) :
    AbsG C g σ η a (w.setRow b us') ∧ ∀ {v : Value} {s : SV},RepS g w v s → RepS g (w.setRow b us') v s:=by
  have hoth : ∀ k,k ≠ b → (w.setRow b us').heap[k]? = w.heap[k]?:=fun k hk=>setRow_other w b k us' hk
  have kp : Keep g.St w g.St (w.setRow b us'):=⟨fun _ _ h=>h,fun c o u hc hu=>(World.cell?_of_block (a:=⟨c,o,none⟩) (hoth c (fun e=>hst o (e ▸ hc)))).trans hu,fun c hc=>hoth c (fun e=>hst 0 (e ▸ hc 0))⟩
  have rk : ∀ {v : Value} {s : SV},RepS g w v s → RepS g (w.setRow b us') v s:=fun r=>r.ext kp (fun _ _=>⟨rfl,rfl,rfl⟩) (Nat.le_refl _)
  refine ⟨⟨h.defers,h.size,⟨h.inv.n,fun i c hc=>by rw [setRow_size];exact h.inv.lt i c hc,h.inv.dead,h.inv.inj,fun i o ho=>?_,fun c o hc=>by rw [setRow_size];exact h.inv.st c o hc,h.inv.gl.keep kp⟩,h.os,h.tape,h.output,by rw [setRow_size];exact h.wsize,
    fun k hk hx=>?_,h.keep.trans kp,h.new,h.own,fun t=>rk (h.rep t)⟩,rk⟩
  · exact (h.inv.ob i o ho).ext kp (fun _ _=>⟨rfl,rfl,rfl⟩) (Nat.le_refl _) (by rw [h.inv.n];exact (List.getElem?_eq_some_iff.1 ho).1) (fun c hcb=>⟨hoth c (fun e=>hb i (e ▸ hcb)),fun _=>Iff.rfl⟩)
  · rw [hoth k (fun e=>by omega)];exact h.heap k hk hx
structure Pn where
  d : Nat
  zs : List Value
  t : TypeId
  cs : List SV
def adσ : List Pn → Nat → Sl → Sl
  | [],_,σ=>σ
  | p :: r,n,σ=>adσ r (n + 1) ((p.d,.ptr n 0) :: σ)
def adη (pn : List Pn) : List Ob:=pn.map fun p=>.bx none (some p.t) p.cs
theorem AbsG.adoptAll {C : Ctx} {a : Act} {w : World} : ∀ (pn : List Pn) (g : Gh) (σ : Sl) (η : List Ob),AbsG C g σ η a w → (∀ p ∈ pn,Fresh C g w (a.tmps.getD p.d undef) p.cs p.t) →
    (pn.Pairwise fun p q=>a.tmps.getD p.d undef ≠ a.tmps.getD q.d undef) → Abs C (adσ pn η.length σ) (η ++ adη pn) a w
  | [],g,σ,η,h,_,_=>⟨g,by simpa [adσ,adη] using h⟩
  | p :: r,g,σ,η,h,hf,hp=>by
    obtain ⟨hp1,hp2⟩:=List.pairwise_cons.1 hp
    obtain ⟨g',h1,h2,h3,h4⟩:=h.adopt (hf p (by simp))
    have:=AbsG.adoptAll r g' _ _ h1 (fun q hq=>?_) hp2
    · rw [List.length_append] at this
      simpa [adσ,adη,List.append_assoc] using this
    · obtain ⟨b,us,f1,f2,z1,z2,z3,f3,f4,f5,f6⟩:=hf q (by simp [hq])
      refine ⟨b,us,f1,f2,z1,z2,fun j u s hu hs=>h4 (z3 j u s hu hs),by rw [h2];exact f3,fun id hid=>?_,f5,f6⟩
      rcases h3 id b hid with h5 | h5
      · exact f4 id h5
      · exact hp1 q hq (by rw [h5,f1])
def once (l : List Oper) (j d : Nat) : Bool:=(List.range l.length).all fun i=>Nat.beq i j || match l[i]? with | some o=>!(match o.dst with | some e=>Nat.beq e d | none=>false) | none=>true
theorem zQE {l : List Oper} {j d : Nat} (h : once l j d = true) {i : Nat} {o : Oper} (hi : l[i]? = some o) (hne : i ≠ j) : o.dst ≠ some d:=by
  have:=List.all_eq_true.1 h i (List.mem_range.2 (List.getElem?_eq_some_iff.1 hi).1)
  intro hd
  simp [hi,hd] at this
  exact hne this
inductive SegK where
  | y (s : SV)
  | mk (p : Pn) (st : Option Nat)
  | st (of : Nat) (p : Pn)
def SegK.sv : SegK → SV
  | .y s=>s
  | .mk _ _=>.top
  | .st _ _=>.top
def zLB (C : Ctx) (l : List Oper) (η : List Ob) (all : List SegK) : Nat → List Oper → List SegK → Sl → Prop
  | j,o :: r,.y s :: ks,σ=>(Wants l.toArray σ o.guard true ∧ Ylds C.P η σ o s) ∧ zFI C.N o.dst ∧ zLB C l η all (j + 1) r ks (put σ o.dst s)
  | j,o :: r,.mk p st :: ks,σ=>(o.op = .alloc p.t ∧ o.guard = none ∧ o.dst = some p.d ∧ zBk C.P p.t = some p.zs ∧ once l j p.d = true ∧ (match st with | none=>p.cs = p.zs.map cst | some i=>all[i]? = some (.st j p))) ∧ zFI C.N o.dst ∧ zLB C l η all (j + 1) r ks (put σ o.dst .top)
  | j,o :: r,.st i p :: ks,σ=>((∃ t x y b0 n,o.op = .store t x y ∧ x = .tmp p.d ∧ zGF (oval σ y) = some p.cs ∧ zBF C.P t = some (b0,n) ∧ Nat.beq p.cs.length n = true) ∧ o.guard = none ∧ o.dst = none ∧ all[i]? = some (.mk p (some j)) ∧ Nat.blt i j = true ∧ Nat.beq p.zs.length p.cs.length = true) ∧ zLB C l η all (j + 1) r ks (put σ o.dst .top)
  | _,_,[],_=>True
  | _,[],_ :: _,_=>False
def pnOf : List SegK → List Pn
  | []=>[]
  | .mk p _ :: r=>p :: pnOf r
  | _ :: r=>pnOf r
def segσ : List Oper → List SegK → Sl → Sl
  | o :: r,k :: ks,σ=>segσ r ks (put σ o.dst k.sv)
  | _,_,σ=>σ
theorem zGg {C : Ctx} {l : List Oper} {η : List Ob} {all : List SegK} : ∀ (r : List Oper) (ks : List SegK) (j : Nat) (σ : Sl),zLB C l η all j r ks σ → ks.length ≤ r.length
  | _,[],_,_,_=>Nat.zero_le _
  | o :: r,.y s :: ks,j,σ,h=>by have:=zGg r ks _ _ h.2.2;simpa using this
  | o :: r,.mk p _ :: ks,j,σ,h=>by have:=zGg r ks _ _ h.2.2;simpa using this
  | o :: r,.st _ p :: ks,j,σ,h=>by have:=zGg r ks _ _ h.2;simpa using this
  | [],_ :: _,_,_,h=>h.elim
theorem zJ0 {C : Ctx} {l : List Oper} {η : List Ob} {all : List SegK} : ∀ (r : List Oper) (ks : List SegK) (j : Nat) (σ : Sl),zLB C l η all j r ks σ → ∀ (i : Nat) o k,r[i]? = some o → ks[i]? = some k →
    (match k with
    | .y s=>zFI C.N o.dst ∧ Wants l.toArray (pst σ j r (ks.map SegK.sv) (fun m=>decide (m < j + i))) o.guard true ∧ Ylds C.P η (pst σ j r (ks.map SegK.sv) (fun m=>decide (m < j + i))) o s
    | .mk p st=>zFI C.N o.dst ∧ o.op = .alloc p.t ∧ o.guard = none ∧ o.dst = some p.d ∧ zBk C.P p.t = some p.zs ∧ once l (j + i) p.d = true ∧ (match st with | none=>p.cs = p.zs.map cst | some m=>all[m]? = some (.st (j + i) p))
    | .st m p=>(∃ t x y b0 n,o.op = .store t x y ∧ x = .tmp p.d ∧ zGF (oval (pst σ j r (ks.map SegK.sv) (fun m=>decide (m < j + i))) y) = some p.cs ∧ zBF C.P t = some (b0,n) ∧ Nat.beq p.cs.length n = true) ∧ o.guard = none ∧ o.dst = none ∧ all[m]? = some (.mk p (some (j + i))) ∧ Nat.blt m (j + i) = true ∧ Nat.beq p.zs.length p.cs.length = true)
  | _,[],_,_,_,i,o,k,_,hk=>by simp at hk
  | [],_ :: _,_,_,h,_,_,_,_,_=>h.elim
  | o :: r,k :: ks,j,σ,h,0,o',k',ho,hk=>by
    simp at ho hk;subst ho;subst hk
    have e0 : ∀ t,get (pst σ j (o :: r) ((k :: ks).map SegK.sv) (fun m=>decide (m < j + 0))) t = get σ t:=by
      intro t
      have:=zB6 t (o :: r) ((k :: ks).map SegK.sv) σ σ j (fun m=>decide (m < j + 0)) (fun _=>false) rfl (fun i o' hi hne=>by simp at hne)
      rw [this,zDg]
    cases k with
    | y s=>exact ⟨h.2.1,h.1.1.congr e0,h.1.2.congr fun x _=>zDL e0 x⟩
    | mk p st=>exact ⟨h.2.1,h.1⟩
    | st m p =>
      obtain ⟨⟨⟨t,x,y,b0,n,h1,h2,h3,h4⟩,h5⟩,_⟩:=h
      exact ⟨⟨t,x,y,b0,n,h1,h2,by rw [zDL e0 y];exact h3,h4⟩,h5⟩
  | o :: r,k :: ks,j,σ,h,i + 1,o',k',ho,hk=>by
    have hh : zLB C l η all (j + 1) r ks (put σ o.dst k.sv):=by
      cases k with
      | y s=>exact h.2.2
      | mk p st=>exact h.2.2
      | st m p=>exact h.2
    have:=zJ0 r ks (j + 1) _ hh i o' k' (by simpa using ho) (by simpa using hk)
    have hj : j + (i + 1) = j + 1 + i:=by omega
    have hd : decide (j < j + 1 + i) = true:=by simp;omega
    simp only [List.map_cons,pst,hj,hd]
    exact this
theorem zFv : ∀ (r : List Oper) (ks : List SegK) (j : Nat) (σ : Sl) (f : Nat → Bool),(∀ i,i < ks.length → f (j + i) = true) → pst σ j r (ks.map SegK.sv) f = segσ r ks σ
  | [],ks,_,_,_,_=>by cases ks <;> rfl
  | _ :: _,[],_,_,_,_=>rfl
  | o :: r,k :: ks,j,σ,f,h=>by
    have h0:=h 0 (by simp)
    rw [Nat.add_zero] at h0
    simp only [List.map_cons,pst,h0,segσ]
    exact zFv r ks (j + 1) _ f (fun i hi=>by rw [show j + 1 + i = j + (i + 1) by omega];exact h (i + 1) (by simpa using hi))
theorem zGk : ∀ {ks : List SegK} {p : Pn},p ∈ pnOf ks → ∃ (j : Nat) (st : Option Nat),ks[j]? = some (.mk p st)
  | .y s :: ks,p,h=>by obtain ⟨j,st,hj⟩:=zGk (ks:=ks) h;exact ⟨j + 1,st,by simpa using hj⟩
  | .st _ _ :: ks,p,h=>by obtain ⟨j,st,hj⟩:=zGk (ks:=ks) h;exact ⟨j + 1,st,by simpa using hj⟩
  | .mk q st :: ks,p,h=>by
    rcases List.mem_cons.1 h with rfl | h
    · exact ⟨0,st,rfl⟩
    · obtain ⟨j,st,hj⟩:=zGk (ks:=ks) h;exact ⟨j + 1,st,by simpa using hj⟩
  | [],p,h=>by simp [pnOf] at h
theorem zGj {R : Pn → Pn → Prop} : ∀ (ks : List SegK),(∀ (i j : Nat) p q s s',ks[i]? = some (.mk p s) → ks[j]? = some (.mk q s') → i ≠ j → R p q) → (pnOf ks).Pairwise R
  | [],_=>.nil
  | .y s :: ks,h=>zGj ks (fun i j p q s s' hi hj hne=>h (i + 1) (j + 1) p q s s' (by simpa using hi) (by simpa using hj) (by omega))
  | .st _ _ :: ks,h=>zGj ks (fun i j p q s s' hi hj hne=>h (i + 1) (j + 1) p q s s' (by simpa using hi) (by simpa using hj) (by omega))
  | .mk p st :: ks,h=>List.pairwise_cons.2 ⟨fun q hq=>by obtain ⟨j,s',hj⟩:=zGk hq;exact h 0 (j + 1) p q st s' rfl (by simpa using hj) (by omega),zGj ks (fun i j p q s s' hi hj hne=>h (i + 1) (j + 1) p q s s' (by simpa using hi) (by simpa using hj) (by omega))⟩
theorem zFu {P : Program} {t : TypeId} {zs : List Value} (h : zBk P t = some zs) : (∀ v ∈ zs,v.oneCell' = true) ∧ ∃ z,z.cells.toList = zs ∧ (∀ w,(zeroValue t).run P w = .ok z w):=by
  unfold zBk at h
  split at h
  · rename_i i hi
    split at h
    · rename_i z hz
      split at h
      · rename_i hall
        injection h with h;subst h
        exact ⟨fun v hv=>Array.all_eq_true_iff_forall_mem.1 hall v (by simpa using hv),z,rfl,fun w=>by simp [zeroValue,typeInfo,hi,hz]⟩
      · cases h
    · cases h
  · cases h
def holds (f : Nat → Bool) (p : Pn) (st : Option Nat) : List SV:=match st with
  | none=>p.cs
  | some i=>if f i then p.cs else p.zs.map cst
theorem zB1 {C : Ctx} {Q : Exit → Sl → List Ob → Prop} {σ : Sl} {η : List Ob} {id : Nat} {l : List Oper} (ks : List SegK) (hm : C.P.follows .mixedOrders = true) (hB : zDv l = true)
    (hbar : ks.length = l.length ∨ zFn l.toArray (l.length - ks.length - 1) = true) (hs : zLB C l η ks 0 l ks σ)
    (h : alex C true l.toArray (l.drop ks.length) (Q .normal) (adσ (pnOf ks) η.length (segσ l ks σ)) (η ++ adη (pnOf ks))) : awp C (.region id l.toArray true) Q σ η:=by
  intro R hR a w ⟨g,hg⟩
  have hd : Abs C σ η a { w with drawn:=w.drawn + 1 }:=⟨g,hg.grow ⟨rfl,rfl,rfl,rfl,rfl,rfl,rfl,Nat.le_refl _,fun _ _=>rfl,fun _ _ h=>h,fun _ _ h=>.inl h,hg.inv.st⟩⟩
  have hkl:=zGg l ks 0 σ hs
  have hat:=zJ0 l ks 0 σ hs
  have spec:=zDo hB
  let I : (Nat → Bool) → Act → World → Prop:=fun f a w=>∃ g,AbsG C g (pst σ 0 l (ks.map SegK.sv) f) η a w ∧ (∀ (j : Nat) p st,ks[j]? = some (.mk p st) → f j = true → Fresh C g w (a.tmps.getD p.d undef) (holds f p st) p.t) ∧
    (∀ (i j : Nat) p q s s',ks[i]? = some (.mk p s) → ks[j]? = some (.mk q s') → i ≠ j → f i = true → f j = true → a.tmps.getD p.d undef ≠ a.tmps.getD q.d undef)
  have hlk : ∀ {j : Nat} {k : SegK},ks[j]? = some k → ∃ o,l[j]? = some o:=fun hk=>⟨_,List.getElem?_eq_getElem (Nat.lt_of_lt_of_le (List.getElem?_eq_some_iff.1 hk).1 hkl)⟩
  refine wp_region_any hm (zNI (C:=C) (K:=Q .normal) (fun σ' η' a w hk hab=>hR _ _ _ _ _ hk hab) hB ks.length hkl hbar I ?_ ?_ _ _ a _ (by simp) ?_ ?_ (fun i _ hi=>?_) ?_)
  · intro f a w hf ⟨g,h1,h2,h3⟩
    refine ⟨_,_,h,?_⟩
    rw [zFv l ks 0 σ f (fun i hi=>by rw [Nat.zero_add];exact hf i hi)] at h1
    refine h1.adoptAll _ _ _ _ (fun p hp=>?_) (zGj ks fun i j p q s s' hi hj hne=>h3 i j p q s s' hi hj hne (hf i (List.getElem?_eq_some_iff.1 hi).1) (hf j (List.getElem?_eq_some_iff.1 hj).1))
    obtain ⟨j,st,hj⟩:=zGk hp
    have hjl:=(List.getElem?_eq_some_iff.1 hj).1
    have hfr:=h2 j p st hj (hf j hjl)
    obtain ⟨o,ho⟩:=hlk hj
    have hcs : holds f p st = p.cs:=by
      cases st with
      | none=>rfl
      | some i =>
        have : ks[i]? = some (.st (0 + j) p):=(hat j o _ ho hj).2.2.2.2.2.2
        have hil : i < ks.length:=(List.getElem?_eq_some_iff.1 this).1
        simp only [holds,hf i hil,if_true]
    rw [hcs] at hfr;exact hfr
  · intro f j o a w hjm hlj hun hcl hdep ⟨g,h1,h2,h3⟩
    obtain ⟨k,hk⟩ : ∃ k,ks[j]? = some k:=⟨_,List.getElem?_eq_getElem hjm⟩
    have hkk:=hat j o k hlj hk
    rw [Nat.zero_add] at hkk
    have same:=zGi (σ:=σ) (ss:=ks.map SegK.sv) hB hlj hun hcl hdep
    have hsk : (ks.map SegK.sv)[j]? = some k.sv:=by rw [List.getElem?_map,hk];rfl
    have next:=zHt (σ:=σ) hB hlj hsk hun hcl
    have stay : ∀ (i : Nat) p st v,ks[i]? = some (.mk p st) → i ≠ j → (a.put o.dst v).tmps.getD p.d undef = a.tmps.getD p.d undef:=by
      intro i p st v hi hne
      obtain ⟨o',hli⟩:=hlk hi
      have hon:=(hat i _ _ hli hi).2.2.2.2.2.1
      rw [Nat.zero_add] at hon
      have hne2:=zQE hon hlj (fun e=>hne e.symm)
      cases hod : o.dst with
      | none=>rfl
      | some e =>
        have : e ≠ p.d:=fun h=>hne2 (by rw [hod,h])
        simp [Act.put,Array.getD_eq_getD_getElem?,Array.getElem?_setIfInBounds_ne this]
    have hmk : ∀ i,(i == j || f i) = true → i ≠ j → f i = true:=fun i h hne=>by
      have : (i == j) = false:=by simpa using hne
      simpa [this] using h
    have hsame : (∀ m p,k ≠ .st m p) → ∀ (i : Nat) p st,ks[i]? = some (.mk p st) → holds (fun i=>i == j || f i) p st = holds f p st:=fun hns i p st hi=>by
      cases st with
      | none=>rfl
      | some m =>
        obtain ⟨o',ho'⟩:=hlk hi
        have : ks[m]? = some (.st (0 + i) p):=(hat i o' _ ho' hi).2.2.2.2.2.2
        have hmj : m ≠ j:=fun e=>by subst e;rw [hk] at this;exact hns _ _ (Option.some.inj this)
        have : (m == j) = false:=by simpa using hmj
        simp only [holds,this,Bool.false_or]
    cases k with
    | y s =>
      left
      obtain ⟨hdst,hw,hy⟩:=hkk
      refine ⟨hw.wanted (g:=g) (w:=w) fun t q b hgd ht=>by rw [← same t (zEK hgd ht)];exact h1.rep t,?_⟩
      have hy' : Ylds C.P η (pst σ 0 l (ks.map SegK.sv) f) o s:=hy.congr fun x hx=>by
        cases x with
        | tmp t=>exact same t (zBZ hx)
        | _=>rfl
      have fin : ∀ v g' w',Grow g w g' w' → RepS g' w' v s → I (fun i=>i == j || f i) (a.put o.dst v) w':=fun v g' w' hgr hr=>by
        have hab:=(h1.grow hgr).put hdst hr
        refine ⟨g',hab.get_eq fun t=>.inl (next t).symm,fun i p st hi hfi=>?_,fun i i2 p q s1 s2 hi hi2 hne hf1 hf2=>?_⟩
        · have hne : i ≠ j:=fun e=>by subst e;rw [hk] at hi;cases hi
          rw [stay i p st v hi hne,hsame (fun _ _ h=>by cases h) i p st hi]
          exact (h2 i p st hi (hmk i hfi hne)).grow h1.inv.st hgr
        · have hne1 : i ≠ j:=fun e=>by subst e;rw [hk] at hi;cases hi
          have hne2 : i2 ≠ j:=fun e=>by subst e;rw [hk] at hi2;cases hi2
          rw [stay i p s1 v hi hne1,stay i2 q s2 v hi2 hne2]
          exact h3 i i2 p q s1 s2 hi hi2 hne (hmk i hf1 hne1) (hmk i2 hf2 hne2)
      unfold Oper.wp
      rcases hy' g w a h1.inv (fun x _=>h1.eval x) with ⟨v,g',w',hr,hg,hs'⟩ | ⟨fn,args,hr,hc⟩
      · rw [hr];exact fin v g' w' hg hs'
      · rw [hr,Oper.upon_enter]
        refine hc.mono fun e w' ⟨v,g',he,hg,hs'⟩=>?_
        subst he
        exact fin v g' w' hg hs'
    | mk p st =>
      left
      obtain ⟨hdst,q1,q2,q3,q4,q5,q6⟩:=hkk
      refine ⟨by unfold Region.wanted;rw [q2],?_⟩
      obtain ⟨z1,z,z2,z3⟩:=zFu q4
      have hrun : (execOp a.eval o).run C.P w = .ok (.value (.pointer (some ⟨w.heap.size,0,none⟩))) (w.alloc (.cells z.cells p.t)):=by
        simp [execOp,q1,Instr.alloc,z3,newVar,newRow]
      have hgr : Grow g w g (w.alloc (.cells z.cells p.t)):=⟨rfl,rfl,rfl,rfl,rfl,rfl,rfl,by simp,fun k hk=>Below.heap_alloc w _ k hk,fun _ _ h=>h,fun _ _ h=>.inl h,fun b o hb=>Nat.lt_of_lt_of_le (h1.inv.st b o hb) (by simp)⟩
      unfold Oper.wp
      rw [hrun]
      have hab:=(h1.grow hgr).put (d:=o.dst) (v:=.pointer (some ⟨w.heap.size,0,none⟩)) (s:=.top) hdst trivial
      have hnew : (a.put o.dst (.pointer (some ⟨w.heap.size,0,none⟩))).tmps.getD p.d undef = .pointer (some ⟨w.heap.size,0,none⟩):=by
        rw [q3]
        have hlt : p.d < a.tmps.size:=by rw [q3] at hdst;rw [h1.size];simpa [zFI,Nat.blt_eq] using hdst
        simp [Act.put,hlt]
      have hold : ∀ (i : Nat) q s,ks[i]? = some (.mk q s) → f i = true → a.tmps.getD q.d undef ≠ .pointer (some ⟨w.heap.size,0,none⟩):=fun i q s hi hfi he=>by
        obtain ⟨b,us,f1,_,_,_,_,_,_,_,f6⟩:=h2 i q s hi hfi
        rw [he] at f1
        injection f1 with f1;injection f1 with f1;injection f1 with f1
        omega
      have hz : holds (fun i=>i == j || f i) p st = p.zs.map cst:=by
        cases st with
        | none=>exact q6
        | some m =>
          simp only at q6
          obtain ⟨o',ho'⟩:=hlk q6
          obtain ⟨⟨tt,x,y,b0,n,r1,r2,_⟩,_,_,_,r3,_⟩:=hat m o' _ ho' q6
          rw [Nat.zero_add] at r3
          have hjm : j < m:=by simpa using r3
          have hfm : f m = false:=by
            cases hfm : f m with
            | false=>rfl
            | true =>
              rcases (spec m o' ho').2.2 j o hjm hlj with ⟨e,he,hb,hon⟩ | hap
              · have:=hcl m o' ho' hfm e he hb
                rw [hon,hun] at this;cases this
              · exact absurd (zBZ (ops:=l.toArray) (o:=o') (t:=p.d) (by rw [r1,r2];simp [Op.operands])) ((Oper.apart_spec hap).1 p.d q3)
          have : (m == j) = false:=by simp;omega
          simp only [holds,this,hfm,Bool.or_false,Bool.false_eq_true,if_false]
      refine ⟨g,hab.get_eq fun t=>.inl (next t).symm,fun i q s hi hfi=>?_,fun i i2 q q' s s' hi hi2 hne hf1 hf2=>?_⟩
      · by_cases hij : i = j
        · subst hij
          rw [hk] at hi;injection hi with hi;injection hi with hi hi';subst hi;subst hi'
          rw [hnew,hz]
          refine ⟨w.heap.size,z.cells,rfl,_root_.Go.heap_alloc_new w _,by rw [← z2];simp,fun u hu=>z1 u (by rw [← z2];simpa using hu),fun jj u s hu hs=>?_,fun o ho=>absurd (h1.inv.st _ o ho) (by omega),fun id hid=>absurd (h1.inv.lt id _ hid) (by omega),h1.wsize,by simp⟩
          rw [← z2,List.getElem?_map] at hs
          rw [← Array.getElem?_toList] at hu
          rw [hu] at hs
          simp at hs;subst hs;exact RepS.cst _ _ u
        · rw [stay i q s _ hi hij,hsame (fun _ _ h=>by cases h) i q s hi]
          exact (h2 i q s hi (hmk i hfi hij)).grow h1.inv.st hgr
      · by_cases hij : i = j
        · have hij2 : i2 ≠ j:=fun e=>hne (hij.trans e.symm)
          subst hij
          rw [hk] at hi;injection hi with hi;injection hi with hi hi';subst hi
          rw [hnew,stay i2 q' s' _ hi2 hij2]
          exact fun e=>hold i2 q' s' hi2 (hmk i2 hf2 hij2) e.symm
        · by_cases hij2 : i2 = j
          · subst hij2
            rw [hk] at hi2;injection hi2 with hi2;injection hi2 with hi2 hi2';subst hi2
            rw [hnew,stay i q s _ hi hij]
            exact hold i q s hi (hmk i hf1 hij)
          · rw [stay i q s _ hi hij,stay i2 q' s' _ hi2 hij2]
            exact h3 i i2 q q' s s' hi hi2 hne (hmk i hf1 hij) (hmk i2 hf2 hij2)
    | st m p =>
      left
      obtain ⟨⟨t,x,y,b0,n,r1,r2,r3,r4,r5⟩,q2,q3,q4,q5,q6⟩:=hkk
      refine ⟨by unfold Region.wanted;rw [q2],?_⟩
      have hmj : m < j:=by simpa using q5
      obtain ⟨om,hom⟩:=hlk q4
      have hq4:=hat m om _ hom q4
      have hfm : f m = true:=by
        rcases (spec j o hlj).2.2 m om hmj hom with ⟨e,he,hb,hon⟩ | hap
        · rw [← hon];exact hdep e he hb
        · exact absurd (zBZ (ops:=l.toArray) (o:=o) (t:=p.d) (by rw [r1,r2];simp [Op.operands])) ((Oper.apart_spec hap).1 p.d hq4.2.2.2.1)
      have hfr:=h2 m p _ q4 hfm
      have hh : holds f p (some j) = p.zs.map cst:=by simp only [holds,hun,Bool.false_eq_true,if_false]
      rw [hh] at hfr
      obtain ⟨b,us,f1,f2,z1,z2,z3,f3,f4,f5,f6⟩:=hfr
      have hy1 : oval (pst σ 0 l (ks.map SegK.sv) f) y = oval (pst σ 0 l (ks.map SegK.sv) (fun i=>decide (i < j))) y:=by
        cases y with
        | tmp u=>exact same u (zBZ (by rw [r1];simp [Op.operands]))
        | _=>rfl
      have hry:=h1.eval y
      rw [hy1] at hry
      obtain ⟨c1,c2,c3⟩:=hry.cells r3
      have hpl:=Nat.eq_of_beq_eq_true q6
      have hn:=Nat.eq_of_beq_eq_true r5
      have hus : us.size = p.cs.length:=by rw [z1,List.length_map];exact hpl
      have hstore:=run_storeCells_at C.P b 0 p.t (a.eval y).cells.toList 0 us w f2 (by rw [Array.length_toList];omega) (fun v hm=>c2 v (by simpa using hm))
      simp only [Nat.add_zero,Nat.zero_add,List.take_zero,List.nil_append] at hstore
      rw [List.drop_of_length_le (by rw [Array.length_toList,Array.length_toList];omega),List.append_nil] at hstore
      obtain ⟨ho1,ho2⟩:=h1.other (a.eval y).cells f3 f4 f5
      have hrun : (execOp a.eval o).run C.P w = .ok .skip (w.setRow b (a.eval y).cells):=by
        have hax : a.eval x = .pointer (some ⟨b,0,none⟩):=by rw [r2];exact f1
        simp only [execOp,r1,hax,Instr.storeAt,Instr.sureAddr,storeVar,Sem.run_bind,Sem.run_pure,Result.andThen_ok,(zBf r4 w).2,c1,hn,ne_eq,not_true,if_false,hstore]
      unfold Oper.wp
      rw [hrun]
      have hput : a.put o.dst undef = a:=by rw [q3];rfl
      show I _ (a.put o.dst undef) _
      rw [hput]
      have hnx : ∀ t,get (pst σ 0 l (ks.map SegK.sv) f) t = get (pst σ 0 l (ks.map SegK.sv) (fun i=>i == j || f i)) t:=fun t=>by have:=next t;rw [q3] at this;exact this
      have hoth : ∀ k,k ≠ b → (w.setRow b (a.eval y).cells).heap[k]? = w.heap[k]?:=fun k hk=>setRow_other w b k _ hk
      refine ⟨g,ho1.get_eq fun t=>.inl (hnx t).symm,fun i q s hi hfi=>?_,fun i i2 q q' s s' hi hi2 hne hf1 hf2=>?_⟩
      · have hij : i ≠ j:=fun e=>by subst e;rw [hk] at hi;cases hi
        have hfi':=hmk i hfi hij
        by_cases him : i = m
        · subst him
          rw [q4] at hi;injection hi with hi;injection hi with hi hi';subst hi;subst hi'
          have hh2 : holds (fun i=>i == j || f i) p (some j) = p.cs:=by simp [holds]
          rw [hh2]
          exact ⟨b,(a.eval y).cells,f1,setRow_heap w b us _ p.t (0,0) f2,c1,c2,fun jj u s hu hs=>ho2 (c3 jj u s hu hs),f3,f4,f5,by rw [setRow_size];exact f6⟩
        · have hne' : ∀ st,s = some st → st ≠ j:=fun st hst hsj=>by
            subst hst;subst hsj
            obtain ⟨o',ho'⟩:=hlk hi
            have : ks[st]? = some (.st (0 + i) q):=(hat i o' _ ho' hi).2.2.2.2.2.2
            simp only [Nat.zero_add] at this
            rw [hk] at this
            injection this with this;injection this with e1 e2
            exact him e1.symm
          have hh2 : holds (fun i=>i == j || f i) q s = holds f q s:=by
            cases s with
            | none=>rfl
            | some st =>
              have : (st == j) = false:=by simpa using hne' st rfl
              simp only [holds,this,Bool.false_or]
          rw [hh2]
          obtain ⟨b2,us2,g1,g2,y1,y2,y3,g3,g4,g5,g6⟩:=h2 i q s hi hfi'
          have hbb : b2 ≠ b:=fun e=>by
            have:=h3 i m q p s _ hi q4 him hfi' hfm
            rw [g1,f1,e] at this;exact this rfl
          exact ⟨b2,us2,g1,(hoth b2 hbb).trans g2,y1,y2,fun jj u s hu hs=>ho2 (y3 jj u s hu hs),g3,g4,g5,by rw [setRow_size];exact g6⟩
      · have hij : i ≠ j:=fun e=>by subst e;rw [hk] at hi;cases hi
        have hij2 : i2 ≠ j:=fun e=>by subst e;rw [hk] at hi2;cases hi2
        exact h3 i i2 q q' s s' hi hi2 hne (hmk i hf1 hij) (hmk i2 hf2 hij2)
  · refine Nat.le_trans (List.length_filter_le _ _) (by simp)
  · intro j o hj hl
    have hjl : j < l.length:=(List.getElem?_eq_some_iff.1 hj).1
    rw [Array.getD_eq_getD_getElem?,Array.getElem?_eq_getElem (by simpa using hjl)] at hl
    simp at hl
  · rw [Array.getD_eq_getD_getElem?,Array.getElem?_eq_getElem (by simpa using hi)]
    simp
  · obtain ⟨g',hg'⟩:=hd
    have hf0 : ∀ i,i < l.length → (Array.replicate l.toArray.size false).getD i true = false:=fun i hi=>by
      rw [Array.getD_eq_getD_getElem?,Array.getElem?_eq_getElem (by simpa using hi)];simp
    refine ⟨g',hg'.get_eq fun t=>.inl ?_,fun j p st hj hf=>?_,fun i j p q s s' hi _ _ hf _=>?_⟩
    · rw [zB6 t l (ks.map SegK.sv) σ σ 0 _ (fun _=>false) rfl (fun i o hi hne=>?_),zDg]
      rw [Nat.zero_add,hf0 i (List.getElem?_eq_some_iff.1 hi).1] at hne
      exact absurd rfl hne
    · have:=hf0 j (by have:=(List.getElem?_eq_some_iff.1 hj).1;omega)
      simp only [this] at hf;cases hf
    · have:=hf0 i (by have:=(List.getElem?_eq_some_iff.1 hi).1;omega)
      simp only [this] at hf;cases hf
end Go.Sx
namespace Go.Sx
open Go.RowKit
def zCu (P : Program) (t : TypeId) : Option (List (Nat × Nat)) :=
  match P.underlying t with
  | some (.struct fs)=>fs.toList.mapM fun f=>(P.info? f.type).map fun i=>(f.offset,i.size)
  | _=>none
def zMv {α : Type} (pl : List (Nat × Nat)) : List α → List (Nat × List α) → Option (List α)
  | cs,[]=>some cs
  | cs,(i,vs) :: r=>match pl[i]? with
    | some (off,size)=>match Nat.beq vs.length size && Nat.ble (off + vs.length) cs.length with
      | true=>zMv pl (cs.take off ++ vs ++ cs.drop (off + vs.length)) r
      | false=>none
    | none=>none
theorem zLq : ∀ (l : List Value) (off k : Nat) (cells : Array Value),off + k + l.length ≤ cells.size →
    ((l.zipIdx k).foldl (fun cs (x : Value × Nat)=>cs.setIfInBounds (off + x.2) x.1) cells).toList = cells.toList.take (off + k) ++ l ++ cells.toList.drop (off + k + l.length)
  | [],off,k,cells,_=>by simp
  | v :: l,off,k,cells,h=>by
    have hl : off + k < cells.size:=by simp at h;omega
    simp only [List.zipIdx_cons,List.foldl_cons]
    rw [zLq l off (k + 1) _ (by simp at h ⊢;omega)]
    have e1 : (cells.setIfInBounds (off + k) v).toList = cells.toList.take (off + k) ++ v :: cells.toList.drop (off + k + 1):=by
      rw [Array.toList_setIfInBounds,List.set_eq_take_append_cons_drop,if_pos (by simpa using hl)]
    have e2 : (cells.toList.take (off + k)).length = off + k:=by rw [List.length_take,Array.length_toList];omega
    rw [e1,show off + (k + 1) = off + k + 1 by omega]
    have e5 : cells.toList.drop (off + k + 1 + l.length) = (cells.toList.drop (off + k + 1)).drop l.length:=by rw [List.drop_drop]
    rw [List.length_cons,show off + k + (l.length + 1) = off + k + 1 + l.length by omega,e5]
    generalize cells.toList.take (off + k) = A at *
    generalize cells.toList.drop (off + k + 1) = B at *
    rw [List.take_append,List.drop_append,e2,List.take_of_length_le (by omega),List.drop_eq_nil_of_le (by omega : A.length ≤ off + k + 1 + l.length)]
    rw [show off + k + 1 - (off + k) = 1 by omega,show off + k + 1 + l.length - (off + k) = l.length + 1 by omega]
    simp
theorem zN8 {α : Type} {R : Value → α → Prop} {pl : List (Nat × Nat)} : ∀ (ps : List (Nat × Value)) (ss : List (Nat × List α)) (cells : Array Value) (cs cs' : List α),ps.length = ss.length →
    (∀ (j : Nat) p q,ps[j]? = some p → ss[j]? = some q → p.1 = q.1 ∧ p.2.cells.size = q.2.length ∧ ∀ (i : Nat) u s,p.2.cells[i]? = some u → q.2[i]? = some s → R u s) →
    cells.size = cs.length → (∀ (i : Nat) u s,cells[i]? = some u → cs[i]? = some s → R u s) → zMv pl cs ss = some cs' →
    ∃ cells',Instr.fill (pl.toArray[·]?) cells ps = some cells' ∧ cells'.size = cs'.length ∧ ∀ (i : Nat) u s,cells'[i]? = some u → cs'[i]? = some s → R u s
  | [],[],cells,cs,cs',_,_,hs,hr,h=>by simp only [zMv,Option.some.injEq] at h;subst h;exact ⟨cells,rfl,hs,hr⟩
  | (i,v) :: ps,(i',vs) :: ss,cells,cs,cs',hl,hp,hs,hr,h=>by
    obtain ⟨q1,q2,q3⟩:=hp 0 _ _ rfl rfl
    simp only at q1 q2 q3
    subst q1
    unfold zMv at h
    split at h
    · rename_i off size hpl
      split at h
      · rename_i hc
        rw [Bool.and_eq_true] at hc
        have c1:=Nat.eq_of_beq_eq_true hc.1
        have c2:=Nat.le_of_ble_eq_true hc.2
        have hfold:=zLq v.cells.toList off 0 cells (by rw [Array.length_toList];omega)
        have hz : (v.cells.zipIdx.foldl (fun cs (x : Value × Nat)=>cs.setIfInBounds (off + x.2) x.1) cells).toList = cells.toList.take off ++ v.cells.toList ++ cells.toList.drop (off + v.cells.size):=by
          rw [← Array.foldl_toList,Array.toList_zipIdx]
          simpa using hfold
        have hsz : (v.cells.zipIdx.foldl (fun cs (x : Value × Nat)=>cs.setIfInBounds (off + x.2) x.1) cells).size = cells.size:=by
          rw [← Array.length_toList,hz];simp;omega
        obtain ⟨cells',r1,r2,r3⟩:=zN8 (R:=R) ps ss (v.cells.zipIdx.foldl (fun cs (x : Value × Nat)=>cs.setIfInBounds (off + x.2) x.1) cells) _ cs' (by simpa using hl) (fun j p q h1 h2=>hp (j + 1) p q (by simpa using h1) (by simpa using h2)) (by rw [hsz];simp;omega) (fun j u s hu hsj=>by
          rw [← Array.getElem?_toList,hz] at hu
          have e1 : (cells.toList.take off).length = off:=by rw [List.length_take,Array.length_toList];omega
          have e2 : (cs.take off).length = off:=by rw [List.length_take];omega
          rcases Nat.lt_or_ge j off with hj | hj
          · rw [List.append_assoc,List.getElem?_append_left (by omega),List.getElem?_take,if_pos hj] at hu hsj
            exact hr j u s (by simpa using hu) hsj
          · rw [List.append_assoc,List.getElem?_append_right (by omega)] at hu hsj
            rw [e1] at hu;rw [e2] at hsj
            rcases Nat.lt_or_ge (j - off) vs.length with hj2 | hj2
            · rw [List.getElem?_append_left (by first | omega | (rw [Array.length_toList];omega))] at hu hsj
              exact q3 (j - off) u s (by simpa using hu) hsj
            · rw [List.getElem?_append_right (by first | omega | (rw [Array.length_toList];omega))] at hu hsj
              rw [Array.length_toList,q2] at hu
              simp only [List.getElem?_drop] at hu hsj
              exact hr (off + vs.length + (j - off - vs.length)) u s (by simpa using hu) hsj) h
        refine ⟨cells',?_,r2,r3⟩
        have hpl' : pl.toArray[i]? = some (off,size):=by simpa using hpl
        have hcond : (decide (v.cells.size ≠ size) || decide (off + v.cells.size > cells.size)) = false:=by simp;omega
        simp only [Instr.fill,hpl',hcond,Bool.false_eq_true,if_false]
        exact r1
      · cases h
    · cases h
  | [],_ :: _,_,_,_,hl,_,_,_,_=>by simp at hl
  | _ :: _,[],_,_,_,hl,_,_,_,_=>by simp at hl
theorem zL9 {P : Program} {t : TypeId} {pl : List (Nat × Nat)} {zs : List Value} {α : Type} {R : Value → α → Prop} {ps : List (Nat × Value)} {ss : List (Nat × List α)} {cs cs' : List α} (hpl : zCu P t = some pl) (hz : zBk P t = some zs) (hl : ps.length = ss.length)
    (hp : ∀ (j : Nat) p q,ps[j]? = some p → ss[j]? = some q → p.1 = q.1 ∧ p.2.cells.size = q.2.length ∧ ∀ (i : Nat) u s,p.2.cells[i]? = some u → q.2[i]? = some s → R u s)
    (hzl : zs.length = cs.length) (hzr : ∀ (i : Nat) u s,zs[i]? = some u → cs[i]? = some s → R u s) (h : zMv pl cs ss = some cs') : ∃ cells',P.built t ps = some cells' ∧ cells'.size = cs'.length ∧ ∀ (i : Nat) u s,cells'[i]? = some u → cs'[i]? = some s → R u s:=by
  unfold zCu at hpl
  split at hpl
  · rename_i fs hfs
    unfold zBk at hz
    split at hz
    · rename_i it hit
      split at hz
      · rename_i z hzz
        split at hz
        · injection hz with hz;subst hz
          obtain ⟨cells',r1,r2⟩:=zN8 (R:=R) (pl:=pl) ps ss z.cells cs cs' hl hp (by simpa using hzl) (fun i u s hu hs=>hzr i u s (by simpa using hu) hs) h
          exact ⟨cells',by simp only [Program.built,hit,hfs,hzz,hpl];exact r1,r2⟩
        · cases hz
      · cases hz
    · cases hz
  · cases hpl
def zFL (η : List Ob) (σ : Sl) : List (Nat × Operand) → List (Nat × D) → Prop
  | [],[]=>True
  | (i,x) :: r,(j,d) :: s=>Nat.beq i j = true ∧ Co η (oval σ x) d ∧ okc d = true ∧ zFL η σ r s
  | _,_=>False
theorem zCF {η : List Ob} {σ : Sl} : zFL η σ [] []:=trivial
theorem PD_d {η : List Ob} {σ : Sl} {i : Nat} {x : Operand} {d : D} {r : List (Nat × Operand)} {s : List (Nat × D)} (h : oval σ x = .d d) (ho : okc d = true) (k : zFL η σ r s) : zFL η σ ((i,x) :: r) ((i,d) :: s):=⟨by simp,by rw [h];rfl,ho,k⟩
theorem PD_n {η : List Ob} {σ : Sl} {i : Nat} {x : Operand} {r : List (Nat × Operand)} {s : List (Nat × D)} (h : oval σ x = .nil) (k : zFL η σ r s) : zFL η σ ((i,x) :: r) ((i,.slice []) :: s):=⟨by simp,by rw [h];exact .inl rfl,rfl,k⟩
theorem zJQ {η : List Ob} {σ : Sl} {g : Gh} {w : World} {a : Act} (hi : Inv g w η) : ∀ (ps : List (Nat × Operand)) (ds : List (Nat × D)),(∀ p ∈ ps,RepS g w (a.eval p.2) (oval σ p.2)) → zFL η σ ps ds → (ps.map fun p=>(p.1,a.eval p.2)).length = (ds.map fun p=>(p.1,p.2.flat)).length ∧
    ∀ (j : Nat) p q,(ps.map fun p=>(p.1,a.eval p.2))[j]? = some p → (ds.map fun p=>(p.1,p.2.flat))[j]? = some q → p.1 = q.1 ∧ p.2.cells.size = q.2.length ∧ ∀ (i : Nat) u s,p.2.cells[i]? = some u → q.2[i]? = some s → RepD g.St w u s ∧ u.oneCell' = true
  | [],[],_,_=>⟨rfl,fun j p q h=>by simp at h⟩
  | (i,x) :: r,(j',d) :: s,ho,⟨h1,h2,h3,h4⟩=>by
    obtain ⟨e1,e2⟩:=zJQ hi r s (fun p hp=>ho p (by simp [hp])) h4
    have hr:=h2.rep hi (ho (i,x) (by simp))
    refine ⟨by simpa using e1,fun j p q hp hq=>?_⟩
    cases j with
    | zero =>
      simp at hp hq;subst hp;subst hq
      have hc:=RepS.cells (g:=g) (w:=w) (v:=a.eval x) (s:=.d d) hr (zLD h3)
      refine ⟨Nat.eq_of_beq_eq_true h1,by simpa using hc.1,fun i u s hu hs=>⟨?_,hc.2.1 u (Array.mem_of_getElem? hu)⟩⟩
      have hs' : (d.flat.map SV.d)[i]? = some (.d s):=by rw [List.getElem?_map];simp only at hs;rw [hs];rfl
      exact hc.2.2 i u (.d s) hu hs'
    | succ j=>exact e2 j p q (by simpa using hp) (by simpa using hq)
  | [],_ :: _,_,h=>h.elim
  | _ :: _,[],_,h=>h.elim
section
variable {P : Program} {η : List Ob} {σ : Sl} {dst : Option Nat} {ty : TypeId} {pos : String} {after : Array Edge} {gd : Option (Nat × Bool)} {t : TypeId} {x y : Operand}
theorem zBS {ps : List (Nat × Operand)} {ds : List (Nat × D)} {pl : List (Nat × Nat)} {zs : List Value} {cs : List D} (hpl : zCu P t = some pl) (hz : zBk P t = some zs) (hp : zFL η σ ps ds) (hf : zMv pl (zs.map zdv) (ds.map fun p=>(p.1,p.2.flat)) = some cs) :
    Ylds P η σ ⟨dst,.build t ps.toArray,ty,pos,after,gd⟩ (.d (.agg cs)):=by
  refine Ylds.same fun g w a hi h=>?_
  obtain ⟨e1,e2⟩:=zJQ (a:=a) hi ps ds (fun p hp=>h p.2 (by
    simp only [Op.operands,List.mem_toArray,List.mem_map];exact ⟨p,hp,rfl⟩)) hp
  obtain ⟨cells',r1,r2,r3⟩:=zL9 (R:=fun u d=>RepD g.St w u d ∧ u.oneCell' = true) (cs:=zs.map zdv) hpl hz e1 e2 (by simp) (fun i u s hu hs=>by
    rw [List.getElem?_map,hu] at hs
    simp at hs;subst hs
    exact ⟨zJr _ _ u,(zFu hz).1 u (List.mem_of_getElem? hu)⟩) hf
  have hall : ∀ (j : Nat) u,cells'[j]? = some u → u.oneCell' = true:=fun j u hu=>by
    have hj : j < cs.length:=by rw [← r2];exact (Array.getElem?_eq_some_iff.1 hu).1
    exact (r3 j u _ hu (List.getElem?_eq_getElem hj)).2
  refine ⟨.agg cells',?_,?_⟩
  · have:=run_build (P:=P) w t (ps.map fun p=>(p.1,a.eval p.2)).toArray cells' (by simpa using r1)
    simp only [execOp,Sem.run_bind,List.map_toArray,this,Result.andThen_ok,Sem.run_pure]
  · have:=RepD.agg (St:=g.St) (w:=w) cells'.toList cs (by simpa using r2) (fun u hu=>by
      obtain ⟨j,hj,rfl⟩:=List.mem_iff_getElem.1 hu
      exact hall j _ (by rw [Array.getElem_toList];exact Array.getElem?_eq_getElem _)) (fun j u d hu hd=>(r3 j u d (by simpa using hu) hd).1)
    show RepD _ _ _ _
    simpa using this
theorem zRe {k : IntKind} {m n : Int} {ts : Array TypeId} (hx : oval σ x = .d (.val (.int k m))) (hy : oval σ y = .d (.val (.int k n))) : Ylds P η σ ⟨dst,.call ⟨.builtin .min, #[x,y],ts⟩,ty,pos,after,gd⟩ (.d (.val (.int k (min m n)))):=by
  refine Ylds.same fun g w a hi h=>⟨.int k (min m n),?_,.val _⟩
  have h1:=h x (by simp [Op.operands,Call.operands]);rw [hx] at h1
  have h2:=h y (by simp [Op.operands,Call.operands]);rw [hy] at h2
  simp [execOp,resolve,invoke,builtin,RepD.val_eq h1,RepD.val_eq h2,run_min_int2];omega
end
def zJN (σ : Sl) : List (Nat × Operand) → List (Nat × List SV) → Prop
  | [],[]=>True
  | (i,x) :: r,(j,cs) :: s=>Nat.beq i j = true ∧ zGF (oval σ x) = some cs ∧ zJN σ r s
  | _,_=>False
theorem zOO {σ : Sl} : zJN σ [] []:=trivial
theorem zEf {σ : Sl} {i : Nat} {x : Operand} {cs : List SV} {r : List (Nat × Operand)} {s : List (Nat × List SV)} (h : zGF (oval σ x) = some cs) (k : zJN σ r s) : zJN σ ((i,x) :: r) ((i,cs) :: s):=⟨by simp,h,k⟩
theorem zJM {σ : Sl} {g : Gh} {w : World} {a : Act} : ∀ (ps : List (Nat × Operand)) (ss : List (Nat × List SV)),(∀ p ∈ ps,RepS g w (a.eval p.2) (oval σ p.2)) → zJN σ ps ss → (ps.map fun p=>(p.1,a.eval p.2)).length = ss.length ∧
    ∀ (j : Nat) p q,(ps.map fun p=>(p.1,a.eval p.2))[j]? = some p → ss[j]? = some q → p.1 = q.1 ∧ p.2.cells.size = q.2.length ∧ ∀ (i : Nat) u s,p.2.cells[i]? = some u → q.2[i]? = some s → RepS g w u s ∧ u.oneCell' = true
  | [],[],_,_=>⟨rfl,fun j p q h=>by simp at h⟩
  | (i,x) :: r,(j',cs) :: s,ho,⟨h1,h2,h4⟩=>by
    obtain ⟨e1,e2⟩:=zJM r s (fun p hp=>ho p (by simp [hp])) h4
    have hc:=(ho (i,x) (by simp)).cells h2
    refine ⟨by simpa using e1,fun j p q hp hq=>?_⟩
    cases j with
    | zero =>
      simp at hp hq;subst hp;subst hq
      exact ⟨Nat.eq_of_beq_eq_true h1,hc.1,fun i u s hu hs=>⟨hc.2.2 i u s hu hs,hc.2.1 u (Array.mem_of_getElem? hu)⟩⟩
    | succ j=>exact e2 j p q (by simpa using hp) (by simpa using hq)
  | [],_ :: _,_,h=>h.elim
  | _ :: _,[],_,h=>h.elim
section
variable {C : Ctx} {ops : Array Oper} {rest : List Oper} {K : Sl → List Ob → Prop} {σ : Sl} {η : List Ob} {d d2 : Nat} {ty ty2 : TypeId} {pos pos2 : String} {after after2 : Array Edge} {t : TypeId}
theorem zG9 {ps : List (Nat × Operand)} {ss : List (Nat × List SV)} {pl : List (Nat × Nat)} {zs : List Value} {cs : List SV} (hpl : zCu C.P t = some pl) (hz : zBk C.P t = some zs) (hp : zJN σ ps ss) (hf : zMv pl (zs.map cst) ss = some cs)
    (hd : Nat.blt d C.N = true) (hd2 : Nat.blt d2 C.N = true) (hro : Nat.ble C.ro η.length = true) (h : alex C false ops rest K ((d2,.ptr η.length 0) :: (d,.top) :: σ) (η ++ [.bx none (some t) cs])) :
    alex C false ops (⟨some d,.build t ps.toArray,ty,pos,after,none⟩ :: ⟨some d2,.box t (.tmp d),ty2,pos2,after2,none⟩ :: rest) K σ η:=by
  refine w0 ?_
  intro Q hQ a w ⟨g,ha⟩ K' hK'
  obtain ⟨e1,e2⟩:=zJM (g:=g) (w:=w) (a:=a) ps ss (fun p _=>ha.eval p.2) hp
  obtain ⟨cells',r1,r2,r3⟩:=zL9 (R:=fun u s=>RepS g w u s ∧ u.oneCell' = true) (cs:=zs.map cst) hpl hz e1 e2 (by simp) (fun i u s hu hs=>by
    rw [List.getElem?_map,hu] at hs
    simp at hs;subst hs
    exact ⟨RepS.cst _ _ u,(zFu hz).1 u (List.mem_of_getElem? hu)⟩) hf
  have hall : ∀ u ∈ cells',u.oneCell' = true:=fun u hu=>by
    obtain ⟨j,hj,rfl⟩:=Array.mem_iff_getElem.1 hu
    have hjc : j < cs.length:=by rw [← r2];exact hj
    exact (r3 j _ _ (Array.getElem?_eq_getElem hj) (List.getElem?_eq_getElem hjc)).2
  have hrun : (execOp a.eval ⟨some d,.build t ps.toArray,ty,pos,after,none⟩).run C.P w = .ok (.value (.agg cells')) w:=by
    have:=run_build (P:=C.P) w t (ps.map fun p=>(p.1,a.eval p.2)).toArray cells' (by simpa using r1)
    simp only [execOp,Sem.run_bind,List.map_toArray,this,Result.andThen_ok,Sem.run_pure]
  unfold Oper.wp
  rw [hrun]
  refine hK' _ _ ?_
  have ha1:=ha.put (d:=some d) (v:=.agg cells') (s:=.top) hd trivial
  have hev : (a.put (some d) (.agg cells')).eval (.tmp d) = .agg cells':=by
    have hlt : d < a.tmps.size:=by rw [ha.size];simpa [Nat.blt_eq] using hd
    simp [Act.eval,Act.put,hlt]
  refine wpList_step fun K2 hK2=>?_
  rw [if_pos (show Region.wanted ⟨some d2,.box t (.tmp d),ty2,pos2,after2,none⟩ _ = true from rfl)]
  unfold Oper.wp
  have hrun2 : (execOp (a.put (some d) (.agg cells')).eval ⟨some d2,.box t (.tmp d),ty2,pos2,after2,none⟩).run C.P w = .ok (.value (.pointer (some ⟨w.heap.size,0,none⟩))) (w.alloc (.cells cells' t)):=by
    simp only [execOp,hev]
    simp [Instr.box,newVar,newRow,Value.cells]
  rw [hrun2]
  exact hK2 _ _ (h Q hQ _ _ (zRU (some t) ha1 t (fun _ h=>(Option.some.inj h).symm) cells' cs hd2 (Nat.le_of_ble_eq_true hro) r2 hall (fun j u s hu hs=>(r3 j u s hu hs).1)))
end
end Go.Sx
namespace Go.Sx
open Go.RowKit
theorem zLt {sz o : Nat} {cs : List D} {c : D} : ∀ {xs : List D} {i : Nat},(∀ x ∈ xs,x.flat.length = sz) → xs[i]? = some (.agg cs) → o < cs.length → zB5 (xs.set i (.agg (cs.set o c))) = (zB5 xs).set (i * sz + o) c
  | x :: r,0,_,hi,ho=>by
    simp at hi;subst hi
    simp only [zB5,List.set_cons_zero,List.flatMap_cons,D.flat,Nat.zero_mul,Nat.zero_add]
    rw [List.set_append,if_pos ho]
  | x :: r,i + 1,hf,hi,ho=>by
    have h1:=hf x (by simp)
    have ih:=zLt (sz:=sz) (o:=o) (c:=c) (xs:=r) (i:=i) (fun y hy=>hf y (by simp [hy])) (by simpa using hi) ho
    simp only [zB5,List.set_cons_succ,List.flatMap_cons] at ih ⊢
    rw [ih,List.set_append,if_neg (by rw [h1,Nat.add_mul];omega),h1]
    rw [show (i + 1) * sz + o - sz = i * sz + o by rw [Nat.add_mul];omega]
  | [],_,_,hi,_=>by simp at hi
section
variable {C : Ctx} {ops : Array Oper} {rest : List Oper} {K : Sl → List Ob → Prop} {σ : Sl} {η : List Ob} {d : Nat} {ty : TypeId} {pos : String} {after : Array Edge} {gd : Option (Nat × Bool)} {t : TypeId} {x y : Operand}
theorem zTD {id i o n e sz : Nat} {xs : List D} {cs : List D} {c : D} (hx : oval σ x = .bptr id i o) (hy : oval σ y = .d c) (hc : one (.d c) = true) (ht : zBF C.P t = some (false,n)) (hn : Nat.beq n 1 = true) (ho : η[id]? = some (.buf true e sz xs)) (hi : xs[i]? = some (.agg cs)) (hol : Nat.blt o cs.length = true) (hro : Nat.ble C.ro id = true)
    (h : alex C false ops rest K σ (η.set id (.buf true e sz (xs.set i (.agg (cs.set o c)))))) : zA3 C false ops ⟨none,.store t x y,ty,pos,after,gd⟩ rest K σ η:=by
  have hn:=Nat.eq_of_beq_eq_true hn
  subst hn
  have hol : o < cs.length:=by simpa using hol
  refine zLw (fun g a w ha=>?_) h
  have hp:=ha.eval x;rw [hx] at hp
  have hr:=ha.eval y;rw [hy] at hr
  obtain ⟨hid,b,hb,hpv⟩:=hp
  obtain ⟨o1,o2,o3,o4,o5⟩:=ha.inv.ob id _ ho
  have hil : i < xs.length:=(List.getElem?_eq_some_iff.1 hi).1
  have hcl : cs.length = sz:=o2 _ (List.mem_of_getElem? hi)
  rcases o5 with ⟨h1,_⟩ | ⟨b',us,h1,h2,h3,h4,h5,h6⟩
  · rw [h1] at hb;cases hb
  · rw [hb] at h1;injection h1 with h1;subst h1
    obtain ⟨c1,c2⟩:=RepS.one (g:=g) (w:=w) (s:=.d c) hr hc
    have hpos : i * sz + o < xs.length * sz:=by
      have:=Nat.mul_le_mul_right sz (show i + 1 ≤ xs.length by omega)
      rw [Nat.add_mul] at this;omega
    have hcap : xs.length * sz ≤ us.size:=by rw [h3];exact Nat.mul_le_mul_right _ o4
    have hst:=run_storeCells_at C.P b (i * sz + o) e [a.eval y] 0 us w h2 (by simp;omega) (fun v hv=>by simp at hv;subst hv;exact c2)
    simp only [Nat.add_zero,List.length_singleton] at hst
    have hus : (us.toList.take (i * sz + o) ++ [a.eval y] ++ us.toList.drop (i * sz + o + 1)).toArray = us.setIfInBounds (i * sz + o) (a.eval y):=by
      apply Array.ext'
      rw [Array.toList_setIfInBounds,List.set_eq_take_append_cons_drop,if_pos (by rw [Array.length_toList];omega)]
      simp
    rw [hus] at hst
    have hfl:=zLt (c:=c) o2 hi hol
    have hset : ∀ x ∈ xs.set i (.agg (cs.set o c)),x.flat.length = sz:=fun x hx=>by
      rcases List.mem_or_eq_of_mem_set hx with h | h
      · exact o2 x h
      · rw [h];simp [D.flat,hcl]
    refine ⟨_,?_,g,ha.writeBuf (us':=us.setIfInBounds (i * sz + o) (a.eval y)) ho (Nat.le_of_ble_eq_true hro) hb h2 (fun o hc=>by have:=(h6 o).1 hc;cases this.1) hset (by rw [List.length_set];exact o4) (by simp) h3 (fun j u hj hu=>?_) (fun j u d' hu hd'=>?_)⟩
    · rw [o1] at hpv
      simp only [execOp,hpv,Instr.storeAt,Instr.sureAddr,storeVar,Sem.run_bind,Sem.run_pure,Result.andThen_ok,(zBf ht w).2,c1,ne_eq]
      simp [hst]
    · rw [List.length_set] at hj
      rw [Array.getElem?_setIfInBounds] at hu
      split at hu
      · split at hu
        · injection hu with hu;subst hu;exact c2
        · cases hu
      · exact h4 j u hj hu
    · rw [hfl,List.getElem?_set] at hd'
      rw [Array.getElem?_setIfInBounds] at hu
      split at hu
      · rename_i hj
        subst hj
        rw [if_pos (by omega)] at hu
        injection hu with hu;subst hu
        rw [if_pos rfl,if_pos (by rw [zBh o2];omega)] at hd'
        injection hd' with hd';subst hd';exact hr
      · rename_i hj
        rw [if_neg hj] at hd'
        exact h5 j u d' hu hd'
variable {P : Program} {dst : Option Nat} {yt : TypeId}
theorem zOM {xs : List D} (hx : oval σ x = .d (.slice xs)) (hy : oval σ y = .nil) (hne : xs ≠ []) (hu : (zB8 P t).isSome = true) : Ylds P η σ ⟨dst,.binOp .eql t x y yt,ty,pos,after,gd⟩ (.d (.val (.bool false))):=by
  obtain ⟨e,he⟩:=Option.isSome_iff_exists.1 hu
  refine Ylds.same fun g w a hi h=>⟨.bool false,?_,.val _⟩
  have h1:=h x (by simp [Op.operands]);rw [hx] at h1
  have h2:=h y (by simp [Op.operands]);rw [hy] at h2
  change RepD _ _ _ _ at h1
  change _ = _ at h2
  generalize hv : a.eval x = v at h1
  cases h1 with
  | slice ad len cap sz _ us hlen hcap hm hsz hus hone hcell =>
    obtain ⟨ad',rfl,_⟩:=hcell (List.length_pos_iff.2 hne)
    have hg : (eqGuard .eql t x y (.slice (some ad') len cap) (.slice none 0 0)).run P w = .ok () w:=by first | rfl | simp [eqGuard] | simp [go_sem]
    have hq : (binOp .eql t (.slice (some ad') len cap) (.slice none 0 0)).run P w = .ok (.bool false) w:=by
      have:=run_equal_slice_nil (P:=P) (w:=w) t e (some ad') len cap (zB9 he)
      simp [go_sem,binOp,this]
    simp only [execOp,hv,h2,Sem.run_bind,hg,hq,Result.andThen_ok,Sem.run_pure]
end
end Go.Sx
namespace Go.Sx
open Go.RowKit
def zMt (C : Ctx) (l : List Oper) (e : Nat) (η' : List Ob) (bufs ids : List Nat) : Nat → List Oper → List SV → Sl → Prop
  | j,o :: r,s :: ss,σ=>(zEP l.toArray l.length e j = true ∨ (o.guard = none ∧ s.wipe bufs ids = s ∧ Ylds C.P η' (zCi bufs ids σ) o s)) ∧ zMt C l e η' bufs ids (j + 1) r ss (put σ o.dst s)
  | _,_,_,_=>True
theorem zJc {C : Ctx} {l : List Oper} {e : Nat} {η' : List Ob} {bufs ids : List Nat} : ∀ (r : List Oper) (ss : List SV) (j : Nat) (σ : Sl),zMt C l e η' bufs ids j r ss σ → ∀ (i : Nat) o s,r[i]? = some o → ss[i]? = some s →
    zEP l.toArray l.length e (j + i) = true ∨ (o.guard = none ∧ s.wipe bufs ids = s ∧ Ylds C.P η' (zCi bufs ids (pst σ j r ss (fun m=>decide (m < j + i)))) o s)
  | _,[],_,_,_,i,o,s,_,hs=>by simp at hs
  | [],_ :: _,_,_,_,i,o,s,ho,_=>by simp at ho
  | o :: r,s :: ss,j,σ,h,0,o',s',ho,hs=>by
    simp at ho hs;subst ho;subst hs
    have e0 : ∀ t,get (pst σ j (o :: r) (s :: ss) (fun m=>decide (m < j + 0))) t = get σ t:=by
      intro t
      have:=zB6 t (o :: r) (s :: ss) σ σ j (fun m=>decide (m < j + 0)) (fun _=>false) rfl (fun i o' hi hne=>by simp at hne)
      rw [this,zDg]
    rcases h.1 with h1 | ⟨h1,h2,h3⟩
    · exact .inl (by rw [Nat.add_zero];exact h1)
    · exact .inr ⟨h1,h2,h3.congr fun x _=>zDL (fun t=>by rw [zDI,zDI,e0]) x⟩
  | o :: r,s :: ss,j,σ,h,i + 1,o',s',ho,hs=>by
    have:=zJc r ss (j + 1) _ h.2 i o' s' (by simpa using ho) (by simpa using hs)
    have hj : j + (i + 1) = j + 1 + i:=by omega
    have hd : decide (j < j + 1 + i) = true:=by simp;omega
    simp only [pst,hj,hd]
    exact this
theorem SArgs.congr {σ σ' : Sl} {ids : List Nat} : ∀ {xs : List Operand} {as : List SV},SArgs σ ids xs as → (∀ x ∈ xs,oval σ' x = oval σ x) → SArgs σ' ids xs as
  | [],[],_,_=>trivial
  | x :: xs,s :: as,h,ho=>⟨by rw [ho x (by simp)];exact h.1,SArgs.congr h.2 fun y hy=>ho y (by simp [hy])⟩
  | [],_ :: _,h,_=>h.elim
  | _ :: _,[],h,_=>h.elim
theorem zRM {C : Ctx} {Q : Exit → Sl → List Ob → Prop} {σ : Sl} {η : List Ob} {id : Nat} {l : List Oper} (ss : List SV) {fn : FuncId} {args : List Operand} {ts : Array TypeId} {dE : Nat} {ty : TypeId} {pos : String} {after : Array Edge} {as : List SV} {pre post : List Ob} {res : SV} (ids : List Nat)
    (hm : C.P.follows .mixedOrders = true) (hB : zDv l = true) (hle : l[ss.length]? = some ⟨some dE,.call ⟨.value (.func fn),args.toArray,ts⟩,ty,pos,after,none⟩)
    (hbar : ss.length + 1 = l.length ∨ zFn l.toArray (l.length - (ss.length + 1) - 1) = true) (hs : zLB C l η (ss.map .y) 0 l (ss.map .y) σ)
    (hfl : zMt C l ss.length (zCx (zDy (zBr ids pre) ids η) ids (post.map (Ob.ren ids))) (zBr ids pre) ids 0 l ss σ)
    (hb : zAO C.P fn = true) (hc : zAx C.P fn as pre res post) (ha : SArgs (segσ l (ss.map .y) σ) ids args as) (hp : Picks η ids pre) (hd : Nat.blt dE C.N = true)
    (hn : ids.Nodup) (hlen : ids.length = pre.length) (hu : zEG pre = true) (hbl : pre.all (Ob.below pre.length) = true) (hba : as.all (SV.bel pre.length) = true) (hk : zDs pre post = true) (hro : ids.all (fun i=>Nat.ble C.ro i) = true)
    (h : alex C true l.toArray (l.drop (ss.length + 1)) (Q .normal) ((dE,res.ren ids) :: zCi (zBr ids pre) ids (segσ l (ss.map .y) σ)) (zCx (zDy (zBr ids pre) ids η) ids (post.map (Ob.ren ids)))) : awp C (.region id l.toArray true) Q σ η:=by
  intro R hR a w ⟨g,hg⟩
  have hd0 : Abs C σ η a { w with drawn:=w.drawn + 1 }:=⟨g,hg.grow ⟨rfl,rfl,rfl,rfl,rfl,rfl,rfl,Nat.le_refl _,fun _ _=>rfl,fun _ _ h=>h,fun _ _ h=>.inl h,hg.inv.st⟩⟩
  have hel : ss.length < l.length:=(List.getElem?_eq_some_iff.1 hle).1
  have hsv : (ss.map SegK.y).map SegK.sv = ss:=by rw [List.map_map];exact List.map_id ss
  have hat:=zJ0 l _ 0 σ hs
  rw [hsv] at hat
  have hfa:=zJc l ss 0 σ hfl
  have spec:=zDo hB
  generalize hη' : zCx (zDy (zBr ids pre) ids η) ids (post.map (Ob.ren ids)) = η' at *
  let I : (Nat → Bool) → Act → World → Prop:=fun f a w=>match f ss.length with
    | true=>Abs C (put (zCi (zBr ids pre) ids (pst σ 0 l ss f)) (some dE) (res.ren ids)) η' a w
    | false=>Abs C (pst σ 0 l ss f) η a w
  refine wp_region_any hm (zNI (C:=C) (K:=Q .normal) (fun σ' η' a w hk hab=>hR _ _ _ _ _ hk hab) hB (ss.length + 1) (by omega) hbar I ?_ ?_ _ _ a _ (by simp) ?_ ?_ (fun i _ hi=>?_) ?_)
  · intro f a w hf hI
    refine ⟨_,_,h,?_⟩
    have he:=hf ss.length (by omega)
    simp only [I,he] at hI
    have:=zFv l (ss.map .y) 0 σ f (fun i hi=>by rw [Nat.zero_add];exact hf i (by simp at hi;omega))
    rw [hsv] at this
    rw [this] at hI;exact hI
  · intro f j o a w hjm hlj hun hcl hdep hI
    rcases Nat.lt_or_ge j ss.length with hj | hj
    ·
      obtain ⟨s,hsj⟩ : ∃ s,ss[j]? = some s:=⟨_,List.getElem?_eq_getElem hj⟩
      have hkj : (ss.map SegK.y)[j]? = some (.y s):=by rw [List.getElem?_map,hsj];rfl
      obtain ⟨hdst,hw,hy⟩:=hat j o _ hlj hkj
      rw [Nat.zero_add] at hw hy
      have same:=zGi (σ:=σ) (ss:=ss) hB hlj hun hcl hdep
      have next:=zHt (σ:=σ) hB hlj hsj hun hcl
      have hne : (ss.length == j) = false:=by simp;omega
      cases he : f ss.length with
      | false =>
        simp only [I,he] at hI
        obtain ⟨g,h1⟩:=hI
        have hI' : ∀ a' w',Abs C (put (pst σ 0 l ss f) o.dst s) η a' w' → I (fun i=>i == j || f i) a' w':=fun a' w' hab=>by
          simp only [I,hne,he,Bool.or_false];exact hab.le fun t=>.inl (next t).symm
        refine .inl ⟨hw.wanted (g:=g) (w:=w) fun t q b hgd ht=>by rw [← same t (zEK hgd ht)];exact h1.rep t,?_⟩
        have hy' : Ylds C.P η (pst σ 0 l ss f) o s:=hy.congr fun x hx=>by
          cases x with
          | tmp t=>exact same t (zBZ hx)
          | _=>rfl
        exact hy'.wp hdst hI' h1
      | true =>
        simp only [I,he] at hI
        obtain ⟨g,h1⟩:=hI
        have hcl' : ∀ j o,l.toArray[j]? = some o → f j = true → ∀ e ∈ o.after,Region.binds .any e = true → f e.on = true:=fun j o ho=>hcl j o (by simpa using ho)
        have hnr : zEP l.toArray l.length ss.length j = false:=by
          cases hr : zEP l.toArray l.length ss.length j with
          | false=>rfl
          | true =>
            have:=zCQ hcl' l.length ss.length _ (by simpa using hle) (fun e hm hb=>hcl _ _ hle he e hm hb) hr
            rw [hun] at this;cases this
        rcases hfa j o s hlj hsj with h2 | ⟨h2,h3,h4⟩
        · rw [Nat.zero_add,hnr] at h2;cases h2
        · rw [Nat.zero_add] at h4
          have hap : o.apart l.toArray ⟨some dE,.call ⟨.value (.func fn),args.toArray,ts⟩,ty,pos,after,none⟩ = true:=by
            rcases (spec ss.length _ hle).2.2 j o hj hlj with ⟨e,hm,hb,hon⟩ | hap
            · have:=hcl _ _ hle he e hm hb
              rw [hon,hun] at this;cases this
            · exact hap
          obtain ⟨p1,p2,p3⟩:=Oper.apart_spec hap
          have same' : ∀ t,t ∈ o.looksAt l.toArray → get (put (zCi (zBr ids pre) ids (pst σ 0 l ss f)) (some dE) (res.ren ids)) t = get (zCi (zBr ids pre) ids (pst σ 0 l ss (fun m=>decide (m < j)))) t:=fun t ht=>by
            have hne : (some dE : Option Nat) ≠ some t:=fun e=>p3 dE rfl (by injection e with e;rw [e];exact ht)
            rw [zEp hne,zDI,zDI,same t ht]
          refine .inl ⟨by unfold Region.wanted;rw [h2],?_⟩
          have hy' : Ylds C.P η' (put (zCi (zBr ids pre) ids (pst σ 0 l ss f)) (some dE) (res.ren ids)) o s:=h4.congr fun x hx=>by
            cases x with
            | tmp t=>exact same' t (zBZ hx)
            | _=>rfl
          refine hy'.wp hdst (fun a' w' hab=>?_) h1
          simp only [I,hne,he,Bool.or_true]
          refine hab.le fun t=>.inl ?_
          have hn2:=next t
          cases hdd : o.dst with
          | none =>
            rw [hdd] at hn2
            simp only [put,zBU] at hn2 ⊢
            split
            · rfl
            · rw [zDI,zDI,hn2]
          | some d =>
            have hne2 : d ≠ dE:=fun e=>p2 d hdd (by rw [e])
            rw [hdd] at hn2
            simp only [put,zBU] at hn2 ⊢
            by_cases h5 : dE = t
            · subst h5;rw [if_pos rfl,if_neg hne2,if_pos rfl]
            · rw [if_neg h5,zDI, ← hn2]
              by_cases h6 : d = t
              · rw [if_pos h6,if_pos h6,h3]
              · rw [if_neg h6,if_neg h6,if_neg h5,zDI]
    ·
      have hje : j = ss.length:=by omega
      subst hje
      rw [hle] at hlj;injection hlj with hlj;subst hlj
      simp only [I,hun] at hI
      obtain ⟨g,h1⟩:=hI
      refine .inl ⟨rfl,?_⟩
      have same:=zGi (σ:=σ) (ss:=ss) hB hle hun hcl hdep
      have hfull:=zFv l (ss.map .y) 0 σ (fun m=>decide (m < ss.length)) (fun i hi=>by simp at hi ⊢;omega)
      rw [hsv] at hfull
      have ha' : SArgs (pst σ 0 l ss f) ids args as:=by
        have hop : ∀ x ∈ args,oval (pst σ 0 l ss f) x = oval (segσ l (ss.map .y) σ) x:=fun x hx=>by
          cases x with
          | tmp t =>
            rw [← hfull]
            exact same t (zBZ (by simp [Op.operands,Call.operands,hx]))
          | _=>rfl
        exact ha.congr hop
      obtain ⟨e1,e2⟩:=ha'.rep h1
      unfold Oper.wp
      have hrun : (execOp a.eval ⟨some dE,.call ⟨.value (.func fn),args.toArray,ts⟩,ty,pos,after,none⟩).run C.P w = .ok (.enter fn (args.map a.eval).toArray) w:=by
        simp only [execOp,resolve,Act.eval,Deferred.ofValue,invoke,Sem.run_bind,Sem.run_pure,Result.andThen_ok,List.map_toArray,Array.empty_append,Array.append_empty]
        exact zCk hb
      rw [hrun,Oper.upon_enter]
      have hr:=RepSs.callee (g:=g) (w:=w) hlen (args.map a.eval) as e2 (by simp [e1]) hba
      refine (hc (zBd g ids) w _ (h1.inv.callee hn hlen hp hu hbl) hr).mono fun e w' ⟨v,g',he,hI,hres,hF⟩=>?_
      subst he
      obtain ⟨hk1,hk2⟩:=zEQ hk
      obtain ⟨g2,q1,q2⟩:=h1.called hn hlen hp hk1 hro hI hres hF
      obtain ⟨e3,e4⟩:=zJq (ids:=ids) (η:=η) hk2
      rw [e3,hη'] at q1;rw [e4] at q2
      have hbeq : (ss.length == ss.length) = true:=by simp
      simp only [I,hbeq,Bool.true_or]
      have hpst : pst σ 0 l ss (fun i=>i == ss.length || f i) = pst σ 0 l ss f:=by
        have : ∀ (r : List Oper) (ss2 : List SV) (τ : Sl) (k : Nat),k + ss2.length ≤ ss.length → pst τ k r ss2 (fun i=>i == ss.length || f i) = pst τ k r ss2 f:=by
          intro r
          induction r with
          | nil=>intro ss2 τ k _;cases ss2 <;> rfl
          | cons o r ih =>
            intro ss2 τ k hk
            cases ss2 with
            | nil=>rfl
            | cons s ss2 =>
              have : (k == ss.length) = false:=by simp at hk ⊢;omega
              simp only [pst,this,Bool.false_or]
              exact ih ss2 _ (k + 1) (by simp at hk;omega)
        exact this l ss σ 0 (by omega)
      rw [hpst]
      exact ⟨g2,q1.put (d:=some dE) hd q2⟩
  · refine Nat.le_trans (List.length_filter_le _ _) (by simp)
  · intro j o hj hl
    have hjl : j < l.length:=(List.getElem?_eq_some_iff.1 hj).1
    rw [Array.getD_eq_getD_getElem?,Array.getElem?_eq_getElem (by simpa using hjl)] at hl
    simp at hl
  · rw [Array.getD_eq_getD_getElem?,Array.getElem?_eq_getElem (by simpa using hi)]
    simp
  · have hf0 : ∀ i,i < l.length → (Array.replicate l.toArray.size false).getD i true = false:=fun i hi=>by
      rw [Array.getD_eq_getD_getElem?,Array.getElem?_eq_getElem (by simpa using hi)];simp
    simp only [I,hf0 _ hel]
    refine hd0.le fun t=>.inl ?_
    rw [zB6 t l ss σ σ 0 _ (fun _=>false) rfl (fun i o hi hne=>?_),zDg]
    rw [Nat.zero_add,hf0 i (List.getElem?_eq_some_iff.1 hi).1] at hne
    exact absurd rfl hne
end Go.Sx
namespace Go.Sx
open Go.RowKit Go.Lib
def dfn : D → Option Bool
  | .val .nilFunc=>some false
  | .val (.func _ _ _)=>some true
  | .clo _ _=>some true
  | _=>none
section
variable {P : Program} {η : List Ob} {σ : Sl} {dst : Option Nat} {ty : TypeId} {pos : String} {after : Array Edge} {gd : Option (Nat × Bool)} {t yt : TypeId} {x y : Operand}
theorem RepDs.of_list {St : Stab} {w : World} : ∀ {vs : List Value} {ds : List D},vs.length = ds.length → (∀ (j : Nat) (u : Value) (d : D),vs[j]? = some u → ds[j]? = some d → RepD St w u d) → RepDs St w vs ds
  | [],[],_,_=>trivial
  | v :: vs,d :: ds,hl,h=>⟨h 0 v d rfl rfl,RepDs.of_list (by simpa using hl) fun j u e hu he=>h (j + 1) u e (by simpa using hu) (by simpa using he)⟩
theorem RepDs.app {St : Stab} {w : World} : ∀ {vs us : List Value} {ds es : List D},RepDs St w vs ds → RepDs St w us es → RepDs St w (vs ++ us) (ds ++ es)
  | [],_,[],_,_,h=>h
  | _ :: _,_,_ :: _,_,⟨h1,h2⟩,h=>⟨h1,RepDs.app h2 h⟩
theorem zWD {f : FuncId} {args : List Operand} {ts : Array TypeId} {cs ds : List D} {res : D} (hx : oval σ x = .d (.clo f cs)) (hb : zAO P f = true) (hc : zAm P f (ds ++ cs) res) (ha : CoL η σ args ds) :
    Ylds P η σ ⟨dst,.call ⟨.value x,args.toArray,ts⟩,ty,pos,after,gd⟩ (.d res):=by
  intro g w a hi hop
  have hr:=CoL.rep (a:=a) hi args ds (fun y hm=>hop y (by simp [Op.operands,Call.operands,hm])) ha
  have hxr:=hop x (by simp [Op.operands,Call.operands]);rw [hx] at hxr
  obtain ⟨vs,hv,hl,hvs⟩ : ∃ vs : List Value,a.eval x = .func (.func f) #[] vs.toArray ∧ vs.length = cs.length ∧ ∀ (j : Nat) (u : Value) (d : D),vs[j]? = some u → cs[j]? = some d → RepD g.St w u d:=by
    change RepD _ _ _ _ at hxr
    generalize a.eval x = v at hxr
    cases hxr with
    | clo f vs ds hl h=>exact ⟨vs,rfl,hl,h⟩
  refine .inr ⟨f,(args.map a.eval ++ vs).toArray,?_,?_⟩
  · simp only [execOp,resolve,hv,Deferred.ofValue,invoke,Sem.run_bind,Sem.run_pure,Result.andThen_ok,List.map_toArray,Array.empty_append]
    rw [List.append_toArray]
    exact zCk hb
  · refine (hc g.St w _ hi.st hi.gl (hr.app (RepDs.of_list hl hvs))).mono fun e w' ⟨v,St',he,hrep,hbel,hkeep,hnew,hlt⟩=>?_
    exact ⟨v, { g with St:=St' },he,⟨rfl,rfl,rfl,rfl,hbel.os,hbel.tape,hbel.output,hbel.size,hbel.block,hkeep.sub,hnew,hlt⟩,hrep⟩
theorem RepD.rptr {g : Gh} {w : World} {v : Value} {cs : List D} (h : RepD g.St w v (.ref cs)) : RepS g w v (.rptr cs):=by
  cases h with
  | ref ad us cs hl h1 hc h=>exact ⟨ad,us,rfl,hl,h1,hc,h⟩
theorem zPK {cs : List D} {d : D} {n : Nat} (hx : oval σ x = .d (.ref (d :: cs))) (ht : zBF P t = some (false,n)) : Ylds P η σ ⟨dst,.load t x,ty,pos,after,gd⟩ (.d d):=by
  refine Ylds.same fun g w a hi h=>?_
  have h0:=h x (by simp [Op.operands]);rw [hx] at h0
  obtain ⟨ad,us,hv,hl,ho,hc,hr⟩:=RepD.rptr h0
  cases us with
  | nil=>simp at hl
  | cons u us =>
    have h0:=(hc 0 u rfl).2
    refine ⟨u,?_,hr 0 u d rfl rfl⟩
    simp only [Addr.add_zero'] at h0
    simp [execOp,hv,Instr.loadAt,Instr.sureAddr,loadVar,(zBf ht w).1,h0]
def VCall (P : Program) (d : D) (ds : List D) (res : D) : Prop:=∃ f cs,d = .clo f cs ∧ zAO P f = true ∧ zAm P f (ds ++ cs) res
theorem zI6 {d : D} {args : List Operand} {ts : Array TypeId} {ds : List D} {res : D} (hc : VCall P d ds res) (hx : oval σ x = .d d) (ha : CoL η σ args ds) :
    Ylds P η σ ⟨dst,.call ⟨.value x,args.toArray,ts⟩,ty,pos,after,gd⟩ (.d res):=by
  obtain ⟨f,cs,rfl,hb,hc⟩:=hc
  exact zWD hx hb hc ha
theorem VCall.fn {d : D} {ds : List D} {res : D} (h : VCall P d ds res) : dfn d = some true:=by obtain ⟨f,cs,rfl,_⟩:=h;rfl
theorem zWs {s : SV} {f : FuncId} (h : s = .clo f []) : Co η s (.clo f []):=by rw [h];exact ⟨rfl,rfl⟩
theorem PD_c {i : Nat} {f : FuncId} {r : List (Nat × Operand)} {s : List (Nat × D)} (h : oval σ x = .clo f []) (hr : zFL η σ r s) : zFL η σ ((i,x) :: r) ((i,.clo f []) :: s) :=
  ⟨by simp,zWs h,rfl,hr⟩
theorem zHl {P : Program} (w : World) (d : Nat) (t : TypeId) {ps rs : Array TypeId} {v : Bool} (fn : Fn) (a b : Array Value) (h : P.underlying t = some (.func ps rs v)) :
    (Op.equalIn (d + 1) t .nilFunc .nilFunc).run P w = .ok true w ∧ (Op.equalIn (d + 1) t (.func fn a b) .nilFunc).run P w = .ok false w:=by
  constructor <;> simp [Op.equalIn,run_underlying h]
theorem zER {P : Program} (w : World) (t : TypeId) {ps rs : Array TypeId} {v : Bool} (fn : Fn) (a b : Array Value) (h : P.underlying t = some (.func ps rs v)) :
    (binOp .eql t .nilFunc .nilFunc).run P w = .ok (.bool true) w ∧ (binOp .eql t (.func fn a b) .nilFunc).run P w = .ok (.bool false) w ∧
    (binOp .neq t .nilFunc .nilFunc).run P w = .ok (.bool false) w ∧ (binOp .neq t (.func fn a b) .nilFunc).run P w = .ok (.bool true) w:=by
  obtain ⟨h1,h2⟩:=zHl w 9999 t fn a b h
  refine ⟨?_,?_,?_,?_⟩ <;> simp only [binOp] <;> simp [Op.equal,Op.maxDepth,h1,h2]
def fnTy (P : Program) (t : TypeId) : Bool:=match P.underlying t with
  | some (.func _ _ _)=>true
  | _=>false
theorem zLr {P : Program} {t : TypeId} (h : fnTy P t = true) : ∃ ps rs v,P.underlying t = some (.func ps rs v):=by
  unfold fnTy at h
  split at h
  · rename_i ps rs v hu;exact ⟨ps,rs,v,hu⟩
  · cases h
theorem zQ6 {St : Stab} {w : World} {v : Value} {d : D} {b : Bool} (h : RepD St w v d) (hd : dfn d = some b) : (b = false ∧ v = .nilFunc) ∨ (b = true ∧ ∃ fn p q,v = .func fn p q):=by
  unfold dfn at hd
  split at hd
  · injection hd with hd;subst hd;exact .inl ⟨rfl,RepD.val_eq h⟩
  · injection hd with hd;subst hd;exact .inr ⟨rfl,_,_,_,RepD.val_eq h⟩
  · injection hd with hd;subst hd
    cases h with
    | clo f vs ds hl h=>exact .inr ⟨rfl,_,_,_,rfl⟩
  · cases hd
theorem zT1 {d : D} {b : Bool} (hx : oval σ x = .d d) (hd : dfn d = some b) (hy : oval σ y = .d (.val .nilFunc)) (hu : fnTy P t = true) : Ylds P η σ ⟨dst,.binOp .eql t x y yt,ty,pos,after,gd⟩ (.d (.val (.bool (!b)))):=by
  obtain ⟨ps,rs,v,hu⟩:=zLr hu
  refine Ylds.same fun g w a hi h=>⟨.bool (!b),?_,.val _⟩
  have h1:=h x (by simp [Op.operands]);rw [hx] at h1
  have h2:=h y (by simp [Op.operands]);rw [hy] at h2
  rcases zQ6 h1 hd with ⟨rfl,hv⟩ | ⟨rfl,fn,p,q,hv⟩
  · have:=(zER (P:=P) w t (.func 0) #[] #[] hu).1
    simp [execOp,hv,RepD.val_eq h2,eqGuard,this]
  · have:=(zER (P:=P) w t fn p q hu).2.1
    simp [execOp,hv,RepD.val_eq h2,eqGuard,this]
theorem zRa {d : D} {b : Bool} (hx : oval σ x = .d d) (hd : dfn d = some b) (hy : oval σ y = .d (.val .nilFunc)) (hu : fnTy P t = true) : Ylds P η σ ⟨dst,.binOp .neq t x y yt,ty,pos,after,gd⟩ (.d (.val (.bool b))):=by
  obtain ⟨ps,rs,v,hu⟩:=zLr hu
  refine Ylds.same fun g w a hi h=>⟨.bool b,?_,.val _⟩
  have h1:=h x (by simp [Op.operands]);rw [hx] at h1
  have h2:=h y (by simp [Op.operands]);rw [hy] at h2
  rcases zQ6 h1 hd with ⟨rfl,hv⟩ | ⟨rfl,fn,p,q,hv⟩
  · have:=(zER (P:=P) w t (.func 0) #[] #[] hu).2.2.1
    simp [execOp,hv,RepD.val_eq h2,eqGuard,this]
  · have:=(zER (P:=P) w t fn p q hu).2.2.2
    simp [execOp,hv,RepD.val_eq h2,eqGuard,this]
end
section
variable {C : Ctx} {σ : Sl} {η : List Ob}
theorem Abs.boxRef {a : Act} {w : World} (id : Nat) {kb : Option Nat} {et : Option TypeId} {ds : List D} (k : Nat) {f : FuncId} (hk : get σ k = .clo f [id]) (ho : η[id]? = some (.bx kb et (ds.map .d))) (hro : C.ro ≤ id) (h : Abs C σ η a w) :
    Abs C ((k,.d (.clo f [.ref ds])) :: σ) (η.set id .gone) a w:=by
  obtain ⟨g,ha⟩:=h
  have hidl : id < η.length:=(List.getElem?_eq_some_iff.1 ho).1
  obtain ⟨b,e,us,o1,o2,o3,o4,o5,o6,o7⟩:=ha.inv.ob id _ ho
  have hbl:=ha.inv.lt id b o1
  let g' : Gh:={ g with St:=fun b' o=>g.St b' o ∨ (b' = b ∧ o < us.size) }
  have kp : Keep g.St w g'.St w:=⟨fun _ _ h=>.inl h,fun _ _ _ _ h=>h,fun _ _=>rfl⟩
  have re : ∀ {v : Value} {s : SV},RepS g w v s → RepS g' w v s:=fun r=>r.ext kp (fun _ _=>⟨rfl,rfl,rfl⟩) (Nat.le_refl _)
  have lt : ∀ b o,g'.St b o → b < w.heap.size:=fun b' o hb=>by
    rcases hb with hb | ⟨rfl,_⟩
    · exact ha.inv.st b' o hb
    · exact hbl
  refine ⟨g',ha.defers,ha.size,⟨by rw [List.length_set];exact ha.inv.n,ha.inv.lt,ha.inv.dead,ha.inv.inj,fun i o hi=>?_,lt,ha.inv.gl.keep kp⟩,ha.os,ha.tape,ha.output,ha.wsize,ha.heap,ha.keep.trans kp,fun b' o hb=>?_,ha.own,fun t=>?_⟩
  · rw [List.getElem?_set] at hi
    split at hi
    · injection hi with hi;subst hi;trivial
    · rename_i hne
      refine (ha.inv.ob i o hi).ext kp (fun _ _=>⟨rfl,rfl,rfl⟩) (Nat.le_refl _) (by rw [ha.inv.n];exact (List.getElem?_eq_some_iff.1 hi).1) (fun b' hb=>⟨rfl,fun o=>⟨fun ho'=>?_,fun h=>.inl h⟩⟩)
      rcases ho' with h1 | ⟨h1,_⟩
      · exact h1
      · rw [h1] at hb
        exact absurd (ha.inv.inj i id b hb o1) (fun h=>hne h.symm)
  · rcases hb with hb | ⟨rfl,_⟩
    · exact ha.new b' o hb
    · exact (ha.own id b' o1 hro).elim (fun h=>.inr (.inl h)) (fun h=>.inr (.inr h))
  · rw [zBU]
    split
    · rename_i hc;subst hc
      have hkr:=ha.rep k;rw [hk] at hkr
      obtain ⟨vs,hv,hl,hvs⟩:=hkr
      rw [hv]
      match vs,hl,hvs with
      | [u],_,hvs =>
        obtain ⟨_,b2,hb2,rfl⟩:=hvs 0 id u rfl rfl
        rw [o1] at hb2;injection hb2 with hb2;subst hb2
        have hul : us.toList.length = ds.length:=by rw [Array.length_toList,o3,List.length_map]
        refine .clo f [_] [_] rfl fun j u d hu hd=>?_
        match j,hu,hd with
        | 0,hu,hd =>
          simp at hu hd;subst hu;subst hd
          refine .ref _ us.toList ds hul (fun u hu=>o4 u (by simpa using hu)) (fun j u hu=>⟨?_,?_⟩) fun j u d hu hd=>?_
          · have:=(List.getElem?_eq_some_iff.1 hu).1
            exact .inr ⟨rfl,by simpa using this⟩
          · rw [Addr.add_lit,Nat.zero_add,cell_of_row w b j us e (0,0) o2];simpa using hu
          · exact (o5 j u (.d d) (by simpa using hu) (by rw [List.getElem?_map,hd];rfl)).keep kp
        | j + 1,hu,_=>simp at hu
    · exact re (ha.rep t)
theorem zPF {Q : Exit → Sl → List Ob → Prop} {c : Code} (id k : Nat) {kb : Option Nat} {et : Option TypeId} {ds : List D} {f : FuncId} (hk : get σ k = .clo f [id]) (ho : η[id]? = some (.bx kb et (ds.map .d))) (hro : Nat.ble C.ro id = true)
    (h : awp C c Q ((k,.d (.clo f [.ref ds])) :: σ) (η.set id .gone)) : awp C c Q σ η:=by
  intro R hR a w hab
  exact h R hR a w (hab.boxRef id k hk ho (Nat.le_of_ble_eq_true hro))
end
section
variable {κ : Type} [DecidableEq κ] {enc : κ → Value}
def delK {κ : Type} [DecidableEq κ] : List (κ × D) → κ → List (κ × D)
  | [],_=>[]
  | (k,d) :: r,a=>if k = a then r else (k,d) :: delK r a
theorem zIu : ∀ {L : List (κ × D)} {a : κ} {d : D},zCW L a = some d → delK L a = L.eraseIdx (idxK L a)
  | [],a,d,h=>by cases h
  | (k,x) :: r,a,d,h=>by
    unfold zCW at h
    unfold delK idxK
    split at h
    · rename_i hk;rw [if_pos hk,if_pos hk];rfl
    · rename_i hk;rw [if_neg hk,if_neg hk,List.eraseIdx_cons_succ,zIu h]
theorem zIv : ∀ {L : List (κ × D)} {a : κ},zCW L a = none → delK L a = L
  | [],a,h=>rfl
  | (k,x) :: r,a,h=>by
    unfold zCW at h
    unfold delK
    split at h
    · cases h
    · rename_i hk;rw [if_neg hk,zIv h]
omit [DecidableEq κ] in
theorem zMh {g : Gh} {w : World} {id : Nat} {q : Bool} {kb : Option Nat} {L : List (κ × D)} (h : ObOk g w id (.mapq q kb (kvs enc L))) : ∃ b es ck,g.blk id = some b ∧ w.heap[b]? = some (.map es ck) ∧ es.toList.length = L.length ∧
    (∀ (j : Nat) e p,es.toList[j]? = some e → L[j]? = some p → e.key = enc p.1) ∧ (∀ (j : Nat) e p,es.toList[j]? = some e → L[j]? = some p → RepD g.St w e.val p.2) ∧ ∀ o,¬ g.St b o:=by
  obtain ⟨b,es,ck,h1,h2,h3,h4,h5,_⟩:=h
  rw [zIX] at h3
  refine ⟨b,es,ck,h1,h2,by simpa using h3,fun j e p he hp=>?_,fun j e p he hp=>?_,h5⟩
  · exact (h4 j e (enc p.1,p.2) (by simpa using he) (by rw [zHS,hp];rfl)).1
  · exact (h4 j e (enc p.1,p.2) (by simpa using he) (by rw [zHS,hp];rfl)).2
theorem zQJ {P : Program} {t : TypeId} {g : Gh} {w : World} {id k e : Nat} {q : Bool} {kb : Option Nat} {L : List (κ × D)} {zd : D} (h : ObOk g w id (.mapq q kb (kvs enc L))) (ht : zDk P t = some (k,e)) (hk : KeyOk P k enc) (hz : zGM P e = some zd) (a : κ) (c : Bool) :
    ∃ b v,g.blk id = some b ∧ (Instr.lookup t (.map (some b)) (enc a) c).run P w = .ok (if c then .tuple #[v,.bool (zCW L a).isSome] else v) w ∧ RepD g.St w v ((zCW L a).getD zd):=by
  obtain ⟨b,es,ck,h1,h2,h3,h4,h5,_⟩:=zMh h
  obtain ⟨kind,k1,k2,k3,k4⟩:=hk.ex
  obtain ⟨z,z1,z2⟩:=zKw hz
  have hck:=MapKept.run_checkKey (w:=w) k1 (k2 a) es.isEmpty 9999
  rcases zEv k3 a es.toList L 0 h3 h4 with ⟨f1,f2⟩ | ⟨e0,d0,f1,f2,f3⟩
  · refine ⟨b,z,h1,?_,by rw [f1];exact z2 _ _⟩
    simp only [Instr.lookup,Sem.run_bind,run_underlying (zCp ht),MapKept.run_getObj_map h2,hck,MapKept.run_findKey k1 f2,z1,f1,Result.andThen,Sem.run_pure]
    cases c <;> rfl
  · have hp:=(zEB f2).1
    refine ⟨b,e0.val,h1,?_,by rw [f2];exact h5 _ _ _ f1 hp⟩
    simp only [Instr.lookup,Sem.run_bind,run_underlying (zCp ht),MapKept.run_getObj_map h2,hck,MapKept.run_findKey k1 f3,f2,Result.andThen,Sem.run_pure]
    cases c <;> rfl
end
section
variable {P : Program} {η : List Ob} {σ : Sl} {dst : Option Nat} {ty : TypeId} {pos : String} {after : Array Edge} {gd : Option (Nat × Bool)} {t : TypeId} {x y : Operand}
theorem zTK {id k e : Nat} {q : Bool} {kb : Option Nat} {L : List (List UInt8 × D)} {a : List UInt8} {zd : D} (hx : oval σ x = .mp id) (ho : η[id]? = some (.mapq q kb (kvs (fun l=>.string ⟨l.toArray⟩) L))) (hy : oval σ y = .d (str a)) (ht : zDk P t = some (k,e)) (hk : P.underlying k = some .string) (hz : zGM P e = some zd) :
    Ylds P η σ ⟨dst,.lookup t x y false,ty,pos,after,gd⟩ (.d ((zCW L a).getD zd)):=by
  refine Ylds.same fun g w ac hi h=>?_
  have h1:=h x (by simp [Op.operands]);rw [hx] at h1
  have h2:=h y (by simp [Op.operands]);rw [hy] at h2
  obtain ⟨_,b,hb,hv⟩:=h1
  obtain ⟨b',v,hb',hr,hd⟩:=zQJ (hi.ob id _ ho) ht (zPk hk) hz a false
  rw [hb] at hb';injection hb' with hb';subst hb'
  exact ⟨v,by simp only [execOp,hv,RepD.val_eq h2,Sem.run_bind,hr];rfl,hd⟩
end
section
variable {C : Ctx} {ops : Array Oper} {rest : List Oper} {K : Sl → List Ob → Prop} {σ : Sl} {η : List Ob} {d : Nat} {ty : TypeId} {pos : String} {after : Array Edge} {gd : Option (Nat × Bool)} {t : TypeId} {x y z : Operand}
theorem zUr {g : Gh} {a : Act} {w : World} (ha : AbsG C g σ η a w) (hd : Nat.blt d C.N = true) (hro : C.ro ≤ η.length) :
    Abs C ((d,.mp η.length) :: σ) (η ++ [.mapq false none []]) (a.put (some d) (.map (some w.heap.size))) (w.alloc (.map #[] 0)) :=
  ha.allocOb _ _ _ _ hd hro fun g' hn hb _ _ hst=>⟨⟨w.heap.size, #[],0,hb,_root_.Go.heap_alloc_new w _,rfl,fun j e p he=>by simp at he,hst,fun _ h=>(by cases h),fun h=>by cases h⟩,by show η.length < g'.n;rw [hn,ha.inv.n];omega,w.heap.size,by rw [← ha.inv.n];exact hb,rfl⟩
theorem zPJ {k e : Nat} (_ht : zDk C.P t = some (k,e)) (_hk : C.P.underlying k = some .string) (hd : Nat.blt d C.N = true) (hro : Nat.ble C.ro η.length = true) (h : alex C false ops rest K ((d,.mp η.length) :: σ) (η ++ [.mapq false none (kvs (fun l : List UInt8=>.string ⟨l.toArray⟩) [])])) :
    zA3 C false ops ⟨some d,.makeMap t none,ty,pos,after,gd⟩ rest K σ η :=
  zHV (fun _ _ _ ha=>⟨_,_,rfl,zUr ha hd (Nat.le_of_ble_eq_true hro)⟩) h
section
variable {κ : Type} [DecidableEq κ] {enc : κ → Value}
omit [DecidableEq κ] in
theorem AbsG.setMapQ {g : Gh} {a : Act} {w : World} (ha : AbsG C g σ η a w) {id b : Nat} {q : Bool} {kb : Option Nat} {L L' : List (κ × D)} {es' : Array MapEntry} (ck : Nat) (ho : η[id]? = some (.mapq q kb (kvs enc L))) (hb : g.blk id = some b) (hro : C.ro ≤ id)
    (hsz : es'.size = L'.length) (hes : ∀ (j : Nat) e p,es'[j]? = some e → L'[j]? = some p → e.key = enc p.1 ∧ RepD g.St w e.val p.2) :
    AbsG C g σ (η.set id (.mapq false kb (kvs enc L'))) a { w with heap:=w.heap.setIfInBounds b (.map es' ck) }:=by
  obtain ⟨b',es,ck0,h1,h2,h3,h4,h5,h6,_⟩:=ha.inv.ob id _ ho
  rw [hb] at h1;injection h1 with h1;subst h1
  have hbl:=ha.inv.lt id b hb
  refine ha.setObj (List.getElem?_eq_some_iff.1 ho).1 hb hro h5 rfl rfl rfl (by simp) (fun k hk=>by simp [Array.getElem?_setIfInBounds_ne (fun e=>hk e.symm)]) fun kp=>⟨b,es',ck,hb,by simp [hbl],by rw [zIX];exact hsz,fun j e p he hp=>?_,h5,h6,fun h=>by cases h⟩
  rw [zHS] at hp
  cases hq : L'[j]? with
  | none=>simp [hq] at hp
  | some p0 =>
    simp [hq] at hp;subst hp
    obtain ⟨q2,q3⟩:=hes j e p0 he hq
    exact ⟨q2,q3.keep kp⟩
theorem zTE {id k e : Nat} {q : Bool} {kb : Option Nat} {L : List (κ × D)} {a : κ} {dv : D} (hx : oval σ x = .mp id) (ho : η[id]? = some (.mapq q kb (kvs enc L))) (hy : oval σ y = .d (.val (enc a))) (hz : Co η (oval σ z) dv) (ht : zDk C.P t = some (k,e)) (hk : KeyOk C.P k enc) (hro : Nat.ble C.ro id = true)
    (h : alex C false ops rest K σ (η.set id (.mapq false kb (kvs enc (putK L a dv))))) : zA3 C false ops ⟨none,.mapUpdate t x y z,ty,pos,after,gd⟩ rest K σ η:=by
  refine zLw (fun g ac w ha=>?_) h
  have h1:=ha.eval x;rw [hx] at h1
  have h2:=ha.eval y;rw [hy] at h2
  have hzr:=hz.rep ha.inv (ha.eval z)
  obtain ⟨_,b,hb,hv⟩:=h1
  obtain ⟨b',es,ck,m1,m2,m3,m4,m5,m6⟩:=zMh (ha.inv.ob id _ ho)
  rw [hb] at m1;injection m1 with m1;subst m1
  obtain ⟨kind,k1,k2,k3,k4⟩:=hk.ex
  have hck:=MapKept.run_checkKey (w:=w) k1 (k2 a) false 9999
  have m3' : es.size = L.length:=by simpa using m3
  rcases zEv k3 a es.toList L 0 m3 m4 with ⟨f1,f2⟩ | ⟨e0,d0,f1,f2,f3⟩
  · obtain ⟨q1,q2,q3⟩:=zHR f1
    have hset:=ha.setMapQ (L':=L ++ [(a,dv)]) (es':=es.push { key:=enc a,val:=ac.eval z,born:=ck }) (ck + 1) ho hb (Nat.le_of_ble_eq_true hro) (by simp [m3']) (fun j e p he hp=>by
      rw [Array.getElem?_push] at he
      split at he
      · rename_i hj
        injection he with he;subst he
        rw [hj,m3',List.getElem?_append_right (Nat.le_refl _)] at hp
        simp at hp;subst hp
        exact ⟨rfl,hzr⟩
      · rename_i hj
        have hjl : j < L.length:=by have:=(Array.getElem?_eq_some_iff.1 he).1;omega
        rw [List.getElem?_append_left hjl] at hp
        have he' : es.toList[j]? = some e:=by simpa using he
        exact ⟨m4 j e p he' hp,m5 j e p he' hp⟩)
    refine ⟨_,?_,g,by rw [q2];exact hset⟩
    simp only [execOp,hv,RepD.val_eq h2,Sem.run_bind,Instr.mapUpdate,run_underlying (zCp ht),MapKept.run_getObj_map m2,hck,MapKept.run_findKey k1 f2,MapKept.run_setObj_map _ m2,Result.andThen,Sem.run_pure]
  · obtain ⟨q1,q2⟩:=zEB f2
    have hil : idxK L a < L.length:=(List.getElem?_eq_some_iff.1 q1).1
    have hkey : e0.key = enc a:=m4 _ _ _ f1 q1
    have f1' : es[idxK L a]? = some e0:=by simpa using f1
    have hset:=ha.setMapQ (L':=L.set (idxK L a) (a,dv)) (es':=es.modify (idxK L a) fun e=>{ e with key:=enc a,val:=ac.eval z }) ck ho hb (Nat.le_of_ble_eq_true hro) (by simp [m3']) (fun j e p he hp=>by
      rw [Array.getElem?_modify] at he
      rw [List.getElem?_set] at hp
      split at he
      · rename_i hj
        subst hj
        rw [if_pos rfl,if_pos hil] at hp
        rw [f1'] at he
        simp at he hp;subst he;subst hp
        exact ⟨rfl,hzr⟩
      · rename_i hj
        rw [if_neg hj] at hp
        have he' : es.toList[j]? = some e:=by simpa using he
        exact ⟨m4 j e p he' hp,m5 j e p he' hp⟩)
    refine ⟨_,?_,g,by rw [q2];exact hset⟩
    rw [Nat.zero_add] at f3
    have hst : (Instr.keyThatStays (((es[idxK L a]?).map (·.key)).getD (enc a)) (enc a)).run C.P w = .ok (enc a) w:=by
      rw [f1'];simp only [Option.map_some,Option.getD_some,hkey];exact zLG (k4 a)
    simp only [execOp,hv,RepD.val_eq h2,Sem.run_bind,Instr.mapUpdate,run_underlying (zCp ht),MapKept.run_getObj_map m2,hck,MapKept.run_findKey k1 f3,hst,MapKept.run_setObj_map _ m2,Result.andThen,Sem.run_pure]
end
theorem zMK {id k e : Nat} {q : Bool} {kb : Option Nat} {L : List (List UInt8 × D)} {a : List UInt8} {dv : D} (hx : oval σ x = .mp id) (ho : η[id]? = some (.mapq q kb (kvs (fun l=>.string ⟨l.toArray⟩) L))) (hy : oval σ y = .d (str a)) (hz : Co η (oval σ z) dv) (ht : zDk C.P t = some (k,e)) (hk : C.P.underlying k = some .string) (hro : Nat.ble C.ro id = true)
    (h : alex C false ops rest K σ (η.set id (.mapq false kb (kvs (fun l : List UInt8=>.string ⟨l.toArray⟩) (putK L a dv))))) : zA3 C false ops ⟨none,.mapUpdate t x y z,ty,pos,after,gd⟩ rest K σ η :=
  zTE hx ho hy hz ht (zPk hk) hro h
section
variable {κ : Type} [DecidableEq κ] {enc : κ → Value}
theorem zTF {id k e : Nat} {q : Bool} {kb : Option Nat} {L : List (κ × D)} {a : κ} {ts : Array TypeId} (hx : oval σ x = .mp id) (ho : η[id]? = some (.mapq q kb (kvs enc L))) (hy : oval σ y = .d (.val (enc a))) (hts : ts[0]? = some t) (ht : zDk C.P t = some (k,e)) (hk : KeyOk C.P k enc) (hro : Nat.ble C.ro id = true)
    (h : alex C false ops rest K σ (η.set id (.mapq false kb (kvs enc (delK L a))))) : zA3 C false ops ⟨none,.call ⟨.builtin .delete, #[x,y],ts⟩,ty,pos,after,gd⟩ rest K σ η:=by
  refine zHV (fun g ac w ha=>?_) h
  have h1:=ha.eval x;rw [hx] at h1
  have h2:=ha.eval y;rw [hy] at h2
  obtain ⟨_,b,hb,hv⟩:=h1
  obtain ⟨b',es,ck,m1,m2,m3,m4,m5,m6⟩:=zMh (ha.inv.ob id _ ho)
  rw [hb] at m1;injection m1 with m1;subst m1
  obtain ⟨kind,k1,k2,k3,k4⟩:=hk.ex
  have hck:=MapKept.run_checkKey (w:=w) k1 (k2 a) es.isEmpty 9999
  have m3' : es.size = L.length:=by simpa using m3
  have hrun : ∀ (r : Option (Nat × Value)),Instr.findNow kind (enc a) es.toList 0 = some r → (execOp ac.eval ⟨none,.call ⟨.builtin .delete, #[x,y],ts⟩,ty,pos,after,gd⟩).run C.P w = .ok (.value (.tuple #[])) { w with heap:=w.heap.setIfInBounds b (.map (match r with | some (i,_)=>es.eraseIdxIfInBounds i | none=>es) ck) }:=fun r hr=>by
    cases r with
    | none =>
      simp [execOp,resolve,invoke,builtin,Builtin.delete_,hts,run_underlying (zCp ht),hv,RepD.val_eq h2,MapKept.run_getObj_map m2,hck,MapKept.run_findKey k1 hr,MapKept.run_setObj_map _ m2,Result.andThen]
    | some p =>
      obtain ⟨i,v⟩:=p
      simp [execOp,resolve,invoke,builtin,Builtin.delete_,hts,run_underlying (zCp ht),hv,RepD.val_eq h2,MapKept.run_getObj_map m2,hck,MapKept.run_findKey k1 hr,MapKept.run_setObj_map _ m2,Result.andThen]
  rcases zEv k3 a es.toList L 0 m3 m4 with ⟨f1,f2⟩ | ⟨e0,d0,f1,f2,f3⟩
  · have hset:=ha.setMapQ (L':=delK L a) (es':=es) ck ho hb (Nat.le_of_ble_eq_true hro) (by rw [zIv f1];exact m3') (fun j e p he hp=>by
      rw [zIv f1] at hp
      have he' : es.toList[j]? = some e:=by simpa using he
      exact ⟨m4 j e p he' hp,m5 j e p he' hp⟩)
    exact ⟨_,_,hrun none f2,_,hset⟩
  · obtain ⟨q1,q2⟩:=zEB f2
    have hil : idxK L a < L.length:=(List.getElem?_eq_some_iff.1 q1).1
    rw [Nat.zero_add] at f3
    have hil2 : idxK L a < es.size:=by omega
    have htl : (es.eraseIdxIfInBounds (idxK L a)).toList = es.toList.eraseIdx (idxK L a):=by
      simp [Array.eraseIdxIfInBounds,hil2]
    have hset:=ha.setMapQ (L':=delK L a) (es':=es.eraseIdxIfInBounds (idxK L a)) ck ho hb (Nat.le_of_ble_eq_true hro) (by rw [← Array.length_toList,htl,zIu f2,List.length_eraseIdx_of_lt hil,List.length_eraseIdx_of_lt (by simpa using hil2),m3]) (fun j e p he hp=>by
      rw [zIu f2,List.getElem?_eraseIdx] at hp
      rw [← Array.getElem?_toList,htl,List.getElem?_eraseIdx] at he
      split at he
      · rename_i hj
        rw [if_pos hj] at hp
        exact ⟨m4 j e p he hp,m5 j e p he hp⟩
      · rename_i hj
        rw [if_neg hj] at hp
        exact ⟨m4 (j + 1) e p he hp,m5 (j + 1) e p he hp⟩)
    exact ⟨_,_,hrun (some _) f3,_,hset⟩
end
theorem zRV {id k e : Nat} {q : Bool} {kb : Option Nat} {L : List (List UInt8 × D)} {a : List UInt8} {ts : Array TypeId} (hx : oval σ x = .mp id) (ho : η[id]? = some (.mapq q kb (kvs (fun l=>.string ⟨l.toArray⟩) L))) (hy : oval σ y = .d (str a)) (hts : ts[0]? = some t) (ht : zDk C.P t = some (k,e)) (hk : C.P.underlying k = some .string) (hro : Nat.ble C.ro id = true)
    (h : alex C false ops rest K σ (η.set id (.mapq false kb (kvs (fun l : List UInt8=>.string ⟨l.toArray⟩) (delK L a))))) : zA3 C false ops ⟨none,.call ⟨.builtin .delete, #[x,y],ts⟩,ty,pos,after,gd⟩ rest K σ η :=
  zTF hx ho hy hts ht (zPk hk) hro h
end
end Go.Sx
namespace Go.Sx
open Go.RowKit
def segG (C : Ctx) (l : List Oper) (η : List Ob) (e : Nat) (η' : List Ob) (F : SV → SV) (T : Sl → Sl) : Nat → List Oper → List SV → Sl → Prop
  | j,o :: r,s :: ss,σ=>(j = e ∨ ((Wants l.toArray σ o.guard true ∧ Ylds C.P η σ o s) ∧ zFI C.N o.dst ∧ (o.after.toList.all fun ed=>!Region.binds .any ed || !Nat.beq ed.on e) = true ∧
      (zEP l.toArray l.length e j = true ∨ (o.guard = none ∧ F s = s ∧ Ylds C.P η' (T σ) o s)))) ∧ segG C l η e η' F T (j + 1) r ss (put σ o.dst s)
  | _,_,_,_=>True
theorem zPs {C : Ctx} {l : List Oper} {η : List Ob} {e : Nat} {η' : List Ob} {F : SV → SV} {T : Sl → Sl} (hT : ∀ τ t,get (T τ) t = F (get τ t)) : ∀ (r : List Oper) (ss : List SV) (j : Nat) (σ : Sl),segG C l η e η' F T j r ss σ → ∀ (i : Nat) o s,r[i]? = some o → ss[i]? = some s →
    j + i = e ∨ ((Wants l.toArray (pst σ j r ss (fun m=>decide (m < j + i))) o.guard true ∧ Ylds C.P η (pst σ j r ss (fun m=>decide (m < j + i))) o s) ∧ zFI C.N o.dst ∧ (o.after.toList.all fun ed=>!Region.binds .any ed || !Nat.beq ed.on e) = true ∧
      (zEP l.toArray l.length e (j + i) = true ∨ (o.guard = none ∧ F s = s ∧ Ylds C.P η' (T (pst σ j r ss (fun m=>decide (m < j + i)))) o s)))
  | _,[],_,_,_,i,o,s,_,hs=>by simp at hs
  | [],_ :: _,_,_,_,i,o,s,ho,_=>by simp at ho
  | o :: r,s :: ss,j,σ,h,0,o',s',ho,hs=>by
    simp at ho hs;subst ho;subst hs
    have e0 : ∀ t,get (pst σ j (o :: r) (s :: ss) (fun m=>decide (m < j + 0))) t = get σ t:=by
      intro t
      have:=zB6 t (o :: r) (s :: ss) σ σ j (fun m=>decide (m < j + 0)) (fun _=>false) rfl (fun i o' hi hne=>by simp at hne)
      rw [this,zDg]
    rcases h.1 with h1 | ⟨⟨h1,h2⟩,h3,h4,h5⟩
    · exact .inl h1
    · refine .inr ⟨⟨?_,h2.congr fun x _=>zDL (fun t=>(e0 t)) x⟩,h3,h4,?_⟩
      · revert h1
        unfold Wants
        cases o.guard with
        | none=>exact id
        | some q =>
          rintro ⟨t,h1,h2⟩
          exact ⟨t,h1,by rw [e0];exact h2⟩
      · rcases h5 with h5 | ⟨h5,h6,h7⟩
        · exact .inl h5
        · exact .inr ⟨h5,h6,h7.congr fun x _=>zDL (fun t=>by rw [hT,hT,e0]) x⟩
  | o :: r,s :: ss,j,σ,h,i + 1,o',s',ho,hs=>by
    have:=zPs hT r ss (j + 1) _ h.2 i o' s' (by simpa using ho) (by simpa using hs)
    have hj : j + (i + 1) = j + 1 + i:=by omega
    have hd : decide (j < j + 1 + i) = true:=by simp;omega
    simp only [pst,hj,hd]
    exact this
theorem zMF {C : Ctx} {Q : Exit → Sl → List Ob → Prop} {σ : Sl} {η : List Ob} {id : Nat} {l : List Oper} (ss : List SV) (e : Nat) {oe : Oper} {dE : Nat} {rs : SV} (F : SV → SV) (T : Sl → Sl) (η' : List Ob)
    (hm : C.P.follows .mixedOrders = true) (hB : zDv l = true) (hle : l[e]? = some oe) (hdE : oe.dst = some dE) (hge : oe.guard = none) (hes : Nat.blt e ss.length = true) (hsl : Nat.ble ss.length l.length = true)
    (hbar : ss.length = l.length ∨ zFn l.toArray (l.length - ss.length - 1) = true) (hT : ∀ τ t,get (T τ) t = F (get τ t)) (hs : segG C l η e η' F T 0 l ss σ)
    (hE : ∀ τ,(∀ t,t ∈ oe.looksAt l.toArray → get τ t = get (pst σ 0 l ss (fun m=>decide (m < e))) t) → EStep C oe (fun σ' η''=>σ' = (dE,rs) :: T τ ∧ η'' = η') τ η)
    (h : alex C true l.toArray (l.drop ss.length) (Q .normal) ((dE,rs) :: T (segσ l (ss.map .y) σ)) η') : awp C (.region id l.toArray true) Q σ η:=by
  intro R hR a w ⟨g,hg⟩
  have hes:=Nat.blt_eq.mp hes
  have hsl:=Nat.le_of_ble_eq_true hsl
  have hd0 : Abs C σ η a { w with drawn:=w.drawn + 1 }:=⟨g,hg.grow ⟨rfl,rfl,rfl,rfl,rfl,rfl,rfl,Nat.le_refl _,fun _ _=>rfl,fun _ _ h=>h,fun _ _ h=>.inl h,hg.inv.st⟩⟩
  have hsv : (ss.map SegK.y).map SegK.sv = ss:=by rw [List.map_map];exact List.map_id ss
  have hat:=zPs hT l ss 0 σ hs
  have spec:=zDo hB
  let I : (Nat → Bool) → Act → World → Prop:=fun f a w=>match f e with
    | true=>Abs C ((dE,rs) :: T (pst σ 0 l ss f)) η' a w
    | false=>Abs C (pst σ 0 l ss f) η a w
  refine wp_region_any hm (zNI (C:=C) (K:=Q .normal) (fun σ' η' a w hk hab=>hR _ _ _ _ _ hk hab) hB ss.length hsl hbar I ?_ ?_ _ _ a _ (by simp) ?_ ?_ (fun i _ hi=>?_) ?_)
  · intro f a w hf hI
    refine ⟨_,_,h,?_⟩
    have he:=hf e hes
    simp only [I,he] at hI
    have:=zFv l (ss.map .y) 0 σ f (fun i hi=>by rw [Nat.zero_add];exact hf i (by simp at hi;omega))
    rw [hsv] at this
    rw [this] at hI;exact hI
  · intro f j o a w hjm hlj hun hcl hdep hI
    obtain ⟨s,hsj⟩ : ∃ s,ss[j]? = some s:=⟨_,List.getElem?_eq_getElem hjm⟩
    have same:=zGi (σ:=σ) (ss:=ss) hB hlj hun hcl hdep
    have next:=zHt (σ:=σ) hB hlj hsj hun hcl
    by_cases hje : j = e
    ·
      subst hje
      rw [hle] at hlj;injection hlj with hlj;subst hlj
      simp only [I,hun] at hI
      refine .inl ⟨by unfold Region.wanted;rw [hge],?_⟩
      refine Oper.wp_mono ?_ (hE _ same _ a w hI)
      rintro a' w' ⟨σ',η'',⟨rfl,rfl⟩,hab⟩
      have hbeq : (j == j) = true:=by simp
      simp only [I,hbeq,Bool.true_or]
      refine hab.le fun t=>.inl ?_
      have hn2:=next t
      rw [hdE] at hn2
      simp only [put,zBU] at hn2 ⊢
      by_cases h5 : dE = t
      · rw [if_pos h5,if_pos h5]
      · rw [if_neg h5] at hn2 ⊢
        rw [if_neg h5,hT,hT,hn2]
    ·
      rcases hat j o s hlj hsj with h0 | ⟨⟨hw,hy⟩,hdst,hind,hfl⟩
      · omega
      rw [Nat.zero_add] at hw hy hfl
      have hne : (e == j) = false:=by simp;omega
      cases he : f e with
      | false =>
        simp only [I,he] at hI
        obtain ⟨g,h1⟩:=hI
        have hI' : ∀ a' w',Abs C (put (pst σ 0 l ss f) o.dst s) η a' w' → I (fun i=>i == j || f i) a' w':=fun a' w' hab=>by
          simp only [I,hne,he,Bool.or_false];exact hab.le fun t=>.inl (next t).symm
        refine .inl ⟨hw.wanted (g:=g) (w:=w) fun t q b hgd ht=>by rw [← same t (zEK hgd ht)];exact h1.rep t,?_⟩
        have hy' : Ylds C.P η (pst σ 0 l ss f) o s:=hy.congr fun x hx=>by
          cases x with
          | tmp t=>exact same t (zBZ hx)
          | _=>rfl
        exact hy'.wp hdst hI' h1
      | true =>
        simp only [I,he] at hI
        obtain ⟨g,h1⟩:=hI
        have hcl' : ∀ j o,l.toArray[j]? = some o → f j = true → ∀ e ∈ o.after,Region.binds .any e = true → f e.on = true:=fun j o ho=>hcl j o (by simpa using ho)
        have hnr : zEP l.toArray l.length e j = false:=by
          cases hr : zEP l.toArray l.length e j with
          | false=>rfl
          | true =>
            have:=zCQ hcl' l.length e _ (by simpa using hle) (fun e' hm hb=>hcl _ _ hle he e' hm hb) hr
            rw [hun] at this;cases this
        rcases hfl with h2 | ⟨h2,h3,h4⟩
        · rw [hnr] at h2;cases h2
        ·
          have hap : (∀ d,o.dst = some d → d ≠ dE) ∧ ∀ t,t ∈ o.looksAt l.toArray → dE ≠ t:=by
            rcases Nat.lt_or_ge j e with hj | hj
            · rcases (spec e _ hle).2.2 j o hj hlj with ⟨ed,hm,hb,hon⟩ | hap
              · have:=hcl _ _ hle he ed hm hb
                rw [hon,hun] at this;cases this
              · obtain ⟨p1,p2,p3⟩:=Oper.apart_spec hap
                exact ⟨fun d hd hq=>p2 d hd (by rw [hdE,hq]),fun t ht hq=>p3 dE hdE (by rw [hq];exact ht)⟩
            · rcases (spec j _ hlj).2.2 e oe (by omega) hle with ⟨ed,hm,hb,hon⟩ | hap
              · have:=List.all_eq_true.1 hind ed (by simpa using hm)
                rw [hb,hon] at this
                simp at this
              · obtain ⟨p1,p2,p3⟩:=Oper.apart_spec hap
                exact ⟨fun d hd hq=>p2 dE hdE (by rw [hd,hq]),fun t ht hq=>p1 dE hdE (by rw [hq];exact ht)⟩
          have same' : ∀ t,t ∈ o.looksAt l.toArray → get ((dE,rs) :: T (pst σ 0 l ss f)) t = get (T (pst σ 0 l ss (fun m=>decide (m < j)))) t:=fun t ht=>by
            rw [zBU,if_neg (hap.2 t ht),hT,hT,same t ht]
          refine .inl ⟨by unfold Region.wanted;rw [h2],?_⟩
          have hy' : Ylds C.P η' ((dE,rs) :: T (pst σ 0 l ss f)) o s:=h4.congr fun x hx=>by
            cases x with
            | tmp t=>exact same' t (zBZ hx)
            | _=>rfl
          refine hy'.wp hdst (fun a' w' hab=>?_) h1
          simp only [I,hne,he,Bool.or_true]
          refine hab.le fun t=>.inl ?_
          have hn2:=next t
          cases hdd : o.dst with
          | none =>
            rw [hdd] at hn2
            simp only [put,zBU] at hn2 ⊢
            split
            · rfl
            · rw [hT,hT,hn2]
          | some d =>
            have hne2 : d ≠ dE:=hap.1 d hdd
            rw [hdd] at hn2
            simp only [put,zBU] at hn2 ⊢
            by_cases h5 : dE = t
            · subst h5;rw [if_pos rfl,if_neg hne2,if_pos rfl]
            · rw [if_neg h5,hT, ← hn2]
              by_cases h6 : d = t
              · rw [if_pos h6,if_pos h6,h3]
              · rw [if_neg h6,if_neg h6,if_neg h5,hT]
  · refine Nat.le_trans (List.length_filter_le _ _) (by simp)
  · intro j o hj hl
    have hjl : j < l.length:=(List.getElem?_eq_some_iff.1 hj).1
    rw [Array.getD_eq_getD_getElem?,Array.getElem?_eq_getElem (by simpa using hjl)] at hl
    simp at hl
  · rw [Array.getD_eq_getD_getElem?,Array.getElem?_eq_getElem (by simpa using hi)]
    simp
  · have hf0 : ∀ i,i < l.length → (Array.replicate l.toArray.size false).getD i true = false:=fun i hi=>by
      rw [Array.getD_eq_getD_getElem?,Array.getElem?_eq_getElem (by simpa using hi)];simp
    simp only [I,hf0 _ (Nat.lt_of_lt_of_le hes hsl)]
    refine hd0.le fun t=>.inl ?_
    rw [zB6 t l ss σ σ 0 _ (fun _=>false) rfl (fun i o hi hne=>?_),zDg]
    rw [Nat.zero_add,hf0 i (List.getElem?_eq_some_iff.1 hi).1] at hne
    exact absurd rfl hne
theorem EStep.of {C : Ctx} {ops : Array Oper} {o : Oper} {J : Sl → List Ob → Prop} {σ : Sl} {η : List Ob} (h : zA3 C false ops o [] J σ η) : EStep C o J σ η:=fun Q a w hab=>by
  have:=h (fun e a w=>match e with | .normal=>∃ σ' η',J σ' η' ∧ Abs C σ' η' a w | e=>Q e a w) (fun σ' η' a w hk hab=>⟨σ',η',hk,hab⟩) a w hab (fun a w=>∃ σ' η',J σ' η' ∧ Abs C σ' η' a w) (fun a w hw=>hw)
  exact zNJ (fun e a w hne hq=>by cases e <;> first | exact absurd rfl hne | exact hq) this
theorem zME {C : Ctx} {Q : Exit → Sl → List Ob → Prop} {σ : Sl} {η : List Ob} {id : Nat} {l : List Oper} (ss : List SV) (e : Nat) {fn : FuncId} {args : List Operand} {ts : Array TypeId} {dE : Nat} {ty : TypeId} {pos : String} {after : Array Edge} {as : List SV} {pre post : List Ob} {res : SV} (ids : List Nat)
    (hm : C.P.follows .mixedOrders = true) (hB : zDv l = true) (hle : l[e]? = some ⟨some dE,.call ⟨.value (.func fn),args.toArray,ts⟩,ty,pos,after,none⟩) (hes : Nat.blt e ss.length = true) (hsl : Nat.ble ss.length l.length = true)
    (hbar : ss.length = l.length ∨ zFn l.toArray (l.length - ss.length - 1) = true)
    (hs : segG C l η e (zCx (zDy (zBr ids pre) ids η) ids (post.map (Ob.ren ids))) (SV.wipe (zBr ids pre) ids) (zCi (zBr ids pre) ids) 0 l ss σ)
    (hb : zAO C.P fn = true) (hc : zAx C.P fn as pre res post) (ha : SArgs (pst σ 0 l ss (fun m=>decide (m < e))) ids args as) (hp : Picks η ids pre) (hd : Nat.blt dE C.N = true)
    (hn : ids.Nodup) (hlen : ids.length = pre.length) (hu : zEG pre = true) (hbl : pre.all (Ob.below pre.length) = true) (hba : as.all (SV.bel pre.length) = true) (hk : zDs pre post = true) (hro : ids.all (fun i=>Nat.ble C.ro i) = true)
    (h : alex C true l.toArray (l.drop ss.length) (Q .normal) ((dE,res.ren ids) :: zCi (zBr ids pre) ids (segσ l (ss.map .y) σ)) (zCx (zDy (zBr ids pre) ids η) ids (post.map (Ob.ren ids)))) : awp C (.region id l.toArray true) Q σ η:=by
  refine zMF ss e (SV.wipe (zBr ids pre) ids) (zCi (zBr ids pre) ids) _ hm hB hle rfl rfl hes hsl hbar (zDI _ _) hs (fun τ hτ=>?_) h
  refine EStep.of (ops:=#[]) (zAy ids hb hc (ha.congr fun x hx=>?_) hp hd hn hlen hu hbl hba hk hro (zAF ⟨rfl,rfl⟩))
  cases x with
  | tmp t=>exact hτ t (zBZ (by simp [Op.operands,Call.operands,hx]))
  | _=>rfl
theorem zRO {C : Ctx} {Q : Exit → Sl → List Ob → Prop} {σ : Sl} {η : List Ob} {rid : Nat} {l : List Oper} (ss : List SV) (i : Nat) {x y : Operand} {t : TypeId} {d : Nat} {ty : TypeId} {pos : String} {after : Array Edge} (id : Nat) {n m e sz by' : Nat} {mu : Bool} {xs ys : List D}
    (hmx : C.P.follows .mixedOrders = true) (hB : zDv l = true) (hle : l[i]? = some ⟨some d,.call ⟨.builtin .append, #[x,y], #[t,t]⟩,ty,pos,after,none⟩) (hes : Nat.blt i ss.length = true) (hsl : Nat.ble ss.length l.length = true)
    (hbar : ss.length = l.length ∨ zFn l.toArray (l.length - ss.length - 1) = true)
    (hs : segG C l η i ((zGt id η).set id (.buf mu e sz (xs ++ ys))) (SV.kill id) (zIY id) 0 l ss σ)
    (hx : oval (pst σ 0 l ss (fun m=>decide (m < i))) x = .buf id n) (ho : η[id]? = some (.buf mu e sz xs)) (hy : oval (pst σ 0 l ss (fun m=>decide (m < i))) y = .d (.slice ys)) (hn : n = xs.length) (hm : m = ys.length)
    (he : zB8 C.P t = some e) (hsz : zA9 C.P t = some sz) (hz : zDP C.P e = some sz) (hb : zDK C.P t = some by') (hd : Nat.blt d C.N = true) (hro : Nat.ble C.ro id = true) (hf : ∀ d ∈ ys,d.flat.length = sz) (hlen : (n + m) * by' ≤ 140737488355328 ∧ n + m ≤ 140737488355328)
    (h : alex C true l.toArray (l.drop ss.length) (Q .normal) ((d,.buf id (n + m)) :: zIY id (segσ l (ss.map .y) σ)) ((zGt id η).set id (.buf mu e sz (xs ++ ys)))) : awp C (.region rid l.toArray true) Q σ η:=by
  refine zMF ss i (SV.kill id) (zIY id) _ hmx hB hle rfl rfl hes hsl hbar (zKX id) hs (fun τ hτ=>?_) h
  have op : ∀ z,z = x ∨ z = y → oval τ z = oval (pst σ 0 l ss (fun m=>decide (m < i))) z:=fun z hz=>by
    cases z with
    | tmp t=>exact hτ t (zBZ (by simp [Op.operands,Call.operands];rcases hz with h | h <;> simp [h]))
    | _=>rfl
  exact EStep.of (ops:=#[]) (aApp (id:=id) ((op x (.inl rfl)).trans hx) ho (zAn ((op y (.inr rfl)).trans hy)) hn hm he hsz hz hb hd hro hf hlen (zAF ⟨rfl,rfl⟩))
end Go.Sx
namespace Go.Sx
open Go.RowKit
section
variable {P : Program} {η : List Ob} {σ : Sl} {dst : Option Nat} {ty : TypeId} {pos : String} {after : Array Edge} {gd : Option (Nat × Bool)} {t : TypeId} {x y z : Operand}
theorem zHo {sz n : Nat} {k k' : IntKind} {xs : List D} (hc : Co η (oval σ x) (.slice xs)) (hs : zA9 P t = some sz) (hhi : oval σ y = .d (.val (.int k (n : Int)))) (hmx : oval σ z = .d (.val (.int k' (n : Int)))) (hn : n = xs.length) (hf : ∀ d ∈ xs,d.flat.length = sz) :
    Ylds P η σ ⟨dst,.slice t x none (some y) (some z),ty,pos,after,gd⟩ (.d (.tsl xs)):=by
  obtain ⟨e,i,hu,hi',hsz⟩:=zBj hs
  refine Ylds.same fun g w a hi h=>?_
  have hr:=hc.rep hi (h x (by simp [Op.operands]))
  have hy:=h y (by simp [Op.operands]);rw [hhi] at hy
  have hz:=h z (by simp [Op.operands]);rw [hmx] at hz
  obtain ⟨sa,cap,us,hv,hcp,hm,hul,h1,hcell,hr'⟩:=hr.open_slice hf
  subst hn
  refine ⟨.slice sa xs.length xs.length,?_,.tsl sa xs.length xs (.slice sa xs.length xs.length sz xs us rfl (Nat.le_refl _) (by omega) hf (by rw [hul,zBh hf]) h1 hcell hr')⟩
  simp only [execOp,hv,RepD.val_eq hy,RepD.val_eq hz,Sem.run_bind,Sem.run_pure,Option.map_none,Option.map_some]
  have e1 : (Instr.sliceAt t (.slice sa xs.length cap) none (some (Value.int k (xs.length : Int))) (some (Value.int k' (xs.length : Int)))).run P w = .ok (.slice sa xs.length xs.length) w:=by
    simp [Instr.sliceAt,Instr.slice,Instr.sliceBounds,Instr.sliceBound,run_underlying hu,sizeOf,typeInfo,hi',asIntOf,hcp,Int.ofNat_le]
    intro h
    cases sa with
    | none=>rfl
    | some ad=>simp [Addr.add_zero']
  rw [e1];rfl
theorem zCV {a b : SV} (h : oval σ x = .pair a b) : Ylds P η σ ⟨dst,.move x,ty,pos,after,gd⟩ (.pair a b):=zFq (.inl rfl) h
theorem zT0 {yt : TypeId} {a b : List UInt8} (hx : oval σ x = .d (str a)) (hy : oval σ y = .d (str b)) (h : a = b) : Ylds P η σ ⟨dst,.binOp .eql t x y yt,ty,pos,after,gd⟩ (.d (.val (.bool true))):=by
  have:=zHa (P:=P) (η:=η) (dst:=dst) (ty:=ty) (pos:=pos) (after:=after) (gd:=gd) (t:=t) (yt:=yt) hx hy;rwa [decide_eq_true h] at this
theorem Y_eqsF {yt : TypeId} {a b : List UInt8} (hx : oval σ x = .d (str a)) (hy : oval σ y = .d (str b)) (h : ¬ a = b) : Ylds P η σ ⟨dst,.binOp .eql t x y yt,ty,pos,after,gd⟩ (.d (.val (.bool false))):=by
  have:=zHa (P:=P) (η:=η) (dst:=dst) (ty:=ty) (pos:=pos) (after:=after) (gd:=gd) (t:=t) (yt:=yt) hx hy;rwa [decide_eq_false h] at this
theorem zCq {xs : List D} (hx : oval σ x = .d (.tsl xs)) : Ylds P η σ ⟨dst,.move x,ty,pos,after,gd⟩ (.d (.slice xs)) :=
  Ylds.same fun g w a hi h=>by
    have h0:=h x (by simp [Op.operands]);rw [hx] at h0
    refine ⟨a.eval x,rfl,?_⟩
    change RepD _ _ _ _ at h0
    generalize a.eval x = v at h0
    cases h0 with
    | tsl sa n xs h=>exact h
theorem zJo {e sz by' : Nat} {xs ys : List D} (hx : oval σ x = .d (.tsl xs)) (hy : Co η (oval σ y) (.slice ys)) (h0 : Nat.blt 0 ys.length = true)
    (he : zB8 P t = some e) (hs : zA9 P t = some sz) (hz : zDP P e = some sz) (hb : zDK P t = some by') (hfx : ∀ d ∈ xs,d.flat.length = sz) (hf : ∀ d ∈ ys,d.flat.length = sz) (hlen : (xs.length + ys.length) * by' ≤ 140737488355328 ∧ xs.length + ys.length ≤ 140737488355328) :
    Ylds P η σ ⟨dst,.call ⟨.builtin .append, #[x,y], #[t,t]⟩,ty,pos,after,gd⟩ (.d (.slice (xs ++ ys))):=by
  have h0 : 0 < ys.length:=by simpa using h0
  obtain ⟨e',i,hu,hi',hsz⟩:=zBj hs
  have : e' = e:=by have:=zB9 he;rw [hu] at this;injection this with this;injection this
  subst this
  have hby : i.bytes = by':=by
    obtain ⟨e2,i2,h1,h2,h3⟩:=zEW hb
    rw [hu] at h1;injection h1 with h1;injection h1 with h1;subst h1
    rw [hi'] at h2;injection h2 with h2;subst h2;exact h3
  obtain ⟨zv,hzz,hzs⟩:=zFO hi' hz
  intro g w a hi h
  have hxr:=h x (by simp [Op.operands,Call.operands]);rw [hx] at hxr
  obtain ⟨sa,hxv,hxr⟩ : ∃ sa,a.eval x = .slice sa xs.length xs.length ∧ RepD g.St w (.slice sa xs.length xs.length) (.slice xs):=by
    change RepD _ _ _ _ at hxr
    generalize a.eval x = v at hxr
    cases hxr with
    | tsl sa n xs h =>
      have : n = xs.length:=by cases h;assumption
      subst this;exact ⟨sa,rfl,h⟩
  obtain ⟨sa',cap',olds,hv',_,_,hol,ho1,hocell,horep⟩:=hxr.open_slice hfx
  injection hv' with hv1 hv2 hv3;subst hv1;subst hv3
  have hyr:=(hy.rep hi (h y (by simp [Op.operands,Call.operands]))).open_slice hf
  obtain ⟨ya,yc,news,hyv,_,_,hnl,hn1,hncell,hnrep⟩:=hyr
  obtain ⟨ad,rfl,hnc⟩:=hncell h0
  have hsrc : Src P i.size t (.slice (some ad) ys.length yc) ys.length news w:=Src.ofSlice w hu ad ys.length yc news (by rw [hnl,hsz]) (fun j u hj=>(hnc j u hj).2) hn1
  have hold : (Builtin.firstCells i.size xs.length (.slice sa xs.length xs.length)).run P w.drew = .ok olds.toArray w.drew:=by
    rcases Nat.eq_zero_or_pos xs.length with hz0 | hz0
    · have hon : olds = []:=List.eq_nil_of_length_eq_zero (by rw [hol,hz0];simp)
      rw [hz0,hon]
      cases sa with
      | none=>exact run_firstCells_none w.drew i.size 0 0 0
      | some b=>exact run_firstCells_some w.drew i.size 0 b 0 0 [] (by simp) (fun j u hj=>by simp at hj)
    · obtain ⟨b,rfl,hbc⟩:=hocell hz0
      exact run_firstCells_some w.drew i.size xs.length b xs.length xs.length olds (by rw [hol,hsz]) (fun j u hj=>by simpa using (hbc j u hj).2)
  have hfit : Builtin.nextslicecap (xs.length + ys.length) xs.length * i.bytes ≤ 281474976710656:=growslice_fits (by omega) (by rw [hby];exact hlen.1)
  have hrun:=run_append_grow_src (P:=P) w t t ty e' i zv hu hi' hzz sa xs.length xs.length olds hold _ _ _ hsrc (by omega) (by omega) hfit
  generalize hcells : (olds ++ news).toArray ++ Builtin.zeroCells zv.cells (grownCap w (xs.length + ys.length) xs.length e' - (xs.length + ys.length)) = us' at hrun
  have hge:=grownCap_ge w (xs.length + ys.length) xs.length e'
  have hcm:=grownCap_le_maxLen w (xs.length + ys.length) xs.length e' (by simp only [maxLen];omega)
  have hat : ∀ j,j < (xs.length + ys.length) * sz → us'[j]? = (olds ++ news)[j]?:=fun j hj=>by
    rw [← hcells,Array.getElem?_append_left (by simp only [List.size_toArray,List.length_append,hol,hnl];rw [← Nat.add_mul];exact hj)];simp
  have hcell : ∀ (j : Nat) (u : Value),(olds ++ news)[j]? = some u → (w.drew.alloc (.cells us' e')).cell? ⟨w.heap.size,j,none⟩ = some u:=fun j u hj=>by
    have hjl:=(List.getElem?_eq_some_iff.1 hj).1
    rw [List.length_append,hol,hnl, ← Nat.add_mul] at hjl
    rw [cell_of_row _ w.heap.size j us' e' (0,0) (_root_.Go.heap_alloc_new w.drew _),hat j hjl];exact hj
  let g' : Gh:={ g with St:=fun b o=>g.St b o ∨ (b = w.heap.size ∧ o < (xs.length + ys.length) * sz) }
  have hh : ∀ k,k < w.heap.size → (w.drew.alloc (.cells us' e')).heap[k]? = w.heap[k]?:=fun k hk=>Below.heap_alloc w.drew _ k hk
  have kp : Keep g.St w g'.St (w.drew.alloc (.cells us' e')):=⟨fun _ _ h=>.inl h,fun b o u hb hc=>(World.cell?_of_block (w:=w) (a:=⟨b,o,none⟩) (hh b (hi.st b o hb))).trans hc,fun b hb=>hh b (hi.st b 0 (hb 0))⟩
  refine .inl ⟨.slice (some ⟨w.heap.size,0,none⟩) (xs.length + ys.length) (grownCap w (xs.length + ys.length) xs.length e'),g',w.drew.alloc (.cells us' e'),?_,⟨rfl,rfl,rfl,rfl,rfl,rfl,rfl,by simp,hh,fun _ _ h=>.inl h,fun b o hb=>hb.imp_right fun h=>by rw [h.1];exact Nat.le_refl _,fun b o hb=>?_⟩,?_⟩
  · simp only [execOp,resolve,invoke,builtin,Sem.run_bind,Sem.run_pure,Result.andThen_ok,List.map_toArray,List.map_cons,List.map_nil,hxv,hyv,hrun]
  · rcases hb with hb | ⟨rfl,_⟩
    · exact Nat.lt_of_lt_of_le (hi.st b o hb) (by simp)
    · simp
  · refine .slice _ _ _ sz _ (olds ++ news) (by rw [List.length_append]) hge hcm (fun d hd=>?_) (by rw [zCh,List.length_append,List.length_append,zBh hfx,zBh hf,hol,hnl]) (fun u hm=>?_) (fun _=>⟨_,rfl,fun j u hj=>⟨?_,?_⟩⟩) (fun j u d hj hd=>?_)
    · rcases List.mem_append.1 hd with h | h
      · exact hfx d h
      · exact hf d h
    · rcases List.mem_append.1 hm with h | h
      · exact ho1 u h
      · exact hn1 u h
    · have hjl:=(List.getElem?_eq_some_iff.1 hj).1
      rw [List.length_append,hol,hnl, ← Nat.add_mul] at hjl
      exact .inr ⟨rfl,by simpa using hjl⟩
    · rw [Addr.add_lit,Nat.zero_add];exact hcell j u hj
    · rw [zCh] at hd
      refine RepD.keep kp ?_
      rcases Nat.lt_or_ge j olds.length with h1 | h1
      · rw [List.getElem?_append_left h1] at hj
        rw [List.getElem?_append_left (by rw [zBh hfx, ← hol];exact h1)] at hd
        exact horep j u d hj hd
      · rw [List.getElem?_append_right h1] at hj
        rw [List.getElem?_append_right (by rw [zBh hfx, ← hol];exact h1)] at hd
        rw [zBh hfx, ← hol] at hd
        exact hnrep _ u d hj hd
end
def lowC (l : List Oper) (es : List Nat) (j : Nat) : Nat:=(es.filter fun e=>zEP l.toArray l.length j e).length
def zIx (l : List Oper) : List Nat → Bool
  | []=>true
  | e :: r=>(r.all fun k=>Nat.blt e k && zEP l.toArray l.length k e) && zIx l r
def idxC : List Nat → Nat → Option Nat
  | [],_=>none
  | e :: r,j=>match Nat.beq e j with
    | true=>some 0
    | false=>(idxC r j).map (· + 1)
def YAll (C : Ctx) (σ : Sl) (o : Oper) (s : SV) : List (List Ob) → Prop
  | []=>True
  | η :: r=>Ylds C.P η σ o s ∧ YAll C σ o s r
def zSH (C : Ctx) (l : List Oper) (es : List Nat) (ηs : List (List Ob)) (T : Sl → Sl) (j : Nat) (o : Oper) (s : SV) (σ : Sl) : Prop:=match idxC es j with
  | some i=>∃ d,o.dst = some d ∧ ∀ τ,(∀ t,t ∈ o.looksAt l.toArray → get τ t = get (T σ) t) → EStep C o (fun σ' η'=>σ' = (d,s) :: T τ ∧ η' = ηs.getD (i + 1) []) τ (ηs.getD i [])
  | none=>YAll C (T σ) o s (ηs.drop (lowC l es j))
def segC (C : Ctx) (l : List Oper) (es : List Nat) (ηs : List (List Ob)) (F : SV → SV) (T : Sl → Sl) : Nat → List Oper → List SV → Sl → Prop
  | j,o :: r,s :: ss,σ=>(o.guard = none ∧ zFI C.N o.dst ∧ F s = s ∧ zSH C l es ηs T j o s σ) ∧ segC C l es ηs F T (j + 1) r ss (put σ o.dst s)
  | _,_,_,_=>True
theorem YAll.get {C : Ctx} {σ : Sl} {o : Oper} {s : SV} : ∀ {L : List (List Ob)},YAll C σ o s L → ∀ (i : Nat) (η : List Ob),L[i]? = some η → Ylds C.P η σ o s
  | _ :: _,h,0,η,hi=>by simp at hi;subst hi;exact h.1
  | _ :: _,h,i + 1,η,hi=>YAll.get h.2 i η (by simpa using hi)
  | [],_,i,η,hi=>by simp at hi
theorem zLa : ∀ (es : List Nat) (j i : Nat),idxC es j = some i → es[i]? = some j
  | e :: r,j,i,h=>by
    unfold idxC at h
    split at h
    · rename_i he;injection h with h;subst h;rw [Nat.eq_of_beq_eq_true he];rfl
    · cases hq : idxC r j with
      | none=>rw [hq] at h;cases h
      | some k =>
        rw [hq] at h;injection h with h;subst h
        exact (List.getElem?_cons_succ).trans (zLa r j k hq)
  | [],_,_,h=>by cases h
theorem zLb : ∀ {es : List Nat} {j : Nat},idxC es j = none → j ∉ es
  | e :: r,j,h=>by
    unfold idxC at h
    split at h
    · cases h
    · rename_i he
      cases hq : idxC r j with
      | none =>
        intro hm
        rcases List.mem_cons.1 hm with hm | hm
        · subst hm;simp at he
        · exact zLb hq hm
      | some k=>rw [hq] at h;cases h
  | [],_,_=>by simp
theorem zPt {C : Ctx} {l : List Oper} {es : List Nat} {ηs : List (List Ob)} {F : SV → SV} {T : Sl → Sl} (hT : ∀ τ t,get (T τ) t = F (get τ t)) : ∀ (r : List Oper) (ss : List SV) (j : Nat) (σ : Sl),segC C l es ηs F T j r ss σ → ∀ (i : Nat) o s,r[i]? = some o → ss[i]? = some s →
    o.guard = none ∧ zFI C.N o.dst ∧ F s = s ∧ match idxC es (j + i) with
      | some k=>∃ d,o.dst = some d ∧ ∀ τ,(∀ t,t ∈ o.looksAt l.toArray → get τ t = F (get (pst σ j r ss (fun m=>decide (m < j + i))) t)) → EStep C o (fun σ' η'=>σ' = (d,s) :: T τ ∧ η' = ηs.getD (k + 1) []) τ (ηs.getD k [])
      | none=>∀ (q : Nat) (η : List Ob),lowC l es (j + i) ≤ q → ηs[q]? = some η → ∀ τ,(∀ x ∈ o.op.operands,oval τ x = oval (T (pst σ j r ss (fun m=>decide (m < j + i)))) x) → Ylds C.P η τ o s
  | _,[],_,_,_,i,o,s,_,hs=>by simp at hs
  | [],_ :: _,_,_,_,i,o,s,ho,_=>by simp at ho
  | o :: r,s :: ss,j,σ,h,0,o',s',ho,hs=>by
    simp at ho hs;subst ho;subst hs
    have e0 : ∀ t,get (pst σ j (o :: r) (s :: ss) (fun m=>decide (m < j + 0))) t = get σ t:=by
      intro t
      have:=zB6 t (o :: r) (s :: ss) σ σ j (fun m=>decide (m < j + 0)) (fun _=>false) rfl (fun i o' hi hne=>by simp at hne)
      rw [this,zDg]
    obtain ⟨⟨h1,h2,h3,h4⟩,_⟩:=h
    refine ⟨h1,h2,h3,?_⟩
    unfold zSH at h4
    rw [Nat.add_zero] at *
    split
    · rename_i k hk
      rw [hk] at h4
      obtain ⟨d,h5,h6⟩:=h4
      exact ⟨d,h5,fun τ hτ=>h6 τ fun t ht=>by rw [hτ t ht,e0,hT]⟩
    · rename_i hk
      rw [hk] at h4
      intro q η hq hη τ hτ
      refine (h4.get (q - lowC l es j) η ?_).congr fun x hx=>(hτ x hx).trans (zDL (fun t=>by rw [hT,hT,e0]) x)
      rw [List.getElem?_drop,Nat.add_sub_cancel' hq];exact hη
  | o :: r,s :: ss,j,σ,h,i + 1,o',s',ho,hs=>by
    have:=zPt hT r ss (j + 1) _ h.2 i o' s' (by simpa using ho) (by simpa using hs)
    have hj : j + (i + 1) = j + 1 + i:=by omega
    have hd : decide (j < j + 1 + i) = true:=by simp;omega
    simp only [pst,hj,hd]
    exact this
theorem zG5 {l : List Oper} : ∀ {es : List Nat},zIx l es = true → ∀ (a b : Nat) x y,a < b → es[a]? = some x → es[b]? = some y → x < y ∧ zEP l.toArray l.length y x = true
  | e :: r,h,0,b + 1,x,y,_,hx,hy=>by
    simp only [zIx,Bool.and_eq_true] at h
    simp at hx;subst hx
    have:=List.all_eq_true.1 h.1 y (List.mem_of_getElem? (by simpa using hy))
    simp only [Bool.and_eq_true] at this
    exact ⟨by simpa using this.1,this.2⟩
  | e :: r,h,a + 1,b + 1,x,y,hab,hx,hy=>by
    simp only [zIx,Bool.and_eq_true] at h
    exact zG5 h.2 a b x y (by omega) (by simpa using hx) (by simpa using hy)
  | _,_,_,0,_,_,hab,_,_=>by omega
  | [],_,_,_ + 1,_,_,_,hx,_=>by simp at hx
def cntC (es : List Nat) (f : Nat → Bool) : Nat:=(es.filter f).length
theorem zS6 {es : List Nat} {f : Nat → Bool} {j i : Nat} (hnd : es.Nodup) (hj : es[i]? = some j) (hf : f j = false) : cntC es (fun k=>k == j || f k) = cntC es f + 1:=by
  unfold cntC
  induction es generalizing i with
  | nil=>simp at hj
  | cons e r ih =>
    rw [List.nodup_cons] at hnd
    cases i with
    | zero =>
      simp at hj;subst hj
      have e1 : r.filter (fun k=>k == e || f k) = r.filter f:=List.filter_congr fun k hk=>by
        have : (k == e) = false:=by simp;intro h;subst h;exact hnd.1 hk
        rw [this,Bool.false_or]
      rw [List.filter_cons,List.filter_cons,hf]
      simp [e1]
    | succ i =>
      have hm : j ∈ r:=List.mem_of_getElem? (by simpa using hj)
      have hne : (e == j) = false:=by simp;intro h;subst h;exact hnd.1 hm
      have:=ih hnd.2 (by simpa using hj)
      rw [List.filter_cons,List.filter_cons,hne,Bool.false_or]
      split
      · simp only [List.length_cons];omega
      · exact this
theorem zS7 {es : List Nat} {f : Nat → Bool} {j : Nat} (hj : j ∉ es) : cntC es (fun k=>k == j || f k) = cntC es f:=by
  unfold cntC
  congr 1
  refine List.filter_congr fun k hk=>?_
  have : (k == j) = false:=by simp;intro h;subst h;exact hj hk
  rw [this,Bool.false_or]
theorem zUn {es : List Nat} {f g : Nat → Bool} (h : ∀ k ∈ es,f k = true → g k = true) : cntC es f ≤ cntC es g:=by
  unfold cntC
  induction es with
  | nil=>simp
  | cons e r ih =>
    have:=ih fun k hk=>h k (List.mem_cons_of_mem _ hk)
    rw [List.filter_cons,List.filter_cons]
    split
    · rename_i he
      rw [if_pos (h e List.mem_cons_self he)];simpa using this
    · split
      · simp only [List.length_cons];omega
      · exact this
theorem zRA {f : Nat → Bool} : ∀ {es : List Nat} {i : Nat},(∀ (a : Nat) x,es[a]? = some x → f x = decide (a < i)) → i ≤ es.length → cntC es f = i
  | [],i,_,hi=>by simp at hi;subst hi;rfl
  | e :: r,0,h,_=>by
    unfold cntC
    have : (e :: r).filter f = []:=List.filter_eq_nil_iff.2 fun x hx=>by
      obtain ⟨a,ha⟩:=List.mem_iff_getElem?.1 hx
      rw [h a x ha];simp
    rw [this];rfl
  | e :: r,i + 1,h,hi=>by
    have:=zRA (f:=f) (es:=r) (i:=i) (fun a x ha=>by rw [h (a + 1) x (by simpa using ha)];simp) (by simpa using hi)
    unfold cntC at this ⊢
    rw [List.filter_cons,h 0 e rfl]
    simp [this]
theorem zRN {C : Ctx} {Q : Exit → Sl → List Ob → Prop} {σ : Sl} {η : List Ob} {id : Nat} {l : List Oper} (ss : List SV) (es : List Nat) (ηs : List (List Ob)) (F : SV → SV) (T : Sl → Sl)
    (hm : C.P.follows .mixedOrders = true) (hB : zDv l = true) (hsl : Nat.ble ss.length l.length = true) (hbar : ss.length = l.length ∨ zFn l.toArray (l.length - ss.length - 1) = true) (hes : (es.all fun e=>Nat.blt e ss.length) = true) (hch : zIx l es = true)
    (hη : Nat.beq ηs.length (es.length + 1) = true) (h0 : ηs.getD 0 [] = η) (hT : ∀ τ t,get (T τ) t = F (get τ t)) (hFF : ∀ s,F (F s) = F s) (hF : ∀ {g : Gh} {w : World} {v : Value} {s : SV},RepS g w v s → RepS g w v (F s))
    (hs : segC C l es ηs F T 0 l ss σ) (h : alex C true l.toArray (l.drop ss.length) (Q .normal) (T (segσ l (ss.map .y) σ)) (ηs.getD es.length [])) : awp C (.region id l.toArray true) Q σ η:=by
  intro R hR a w ⟨g,hg⟩
  have hsl:=Nat.le_of_ble_eq_true hsl
  have hη:=Nat.eq_of_beq_eq_true hη
  have hd0 : Abs C σ η a { w with drawn:=w.drawn + 1 }:=⟨g,hg.grow ⟨rfl,rfl,rfl,rfl,rfl,rfl,rfl,Nat.le_refl _,fun _ _=>rfl,fun _ _ h=>h,fun _ _ h=>.inl h,hg.inv.st⟩⟩
  have hsv : (ss.map SegK.y).map SegK.sv = ss:=by rw [List.map_map];exact List.map_id ss
  have hat:=zPt hT l ss 0 σ hs
  have hnd : es.Nodup:=by
    rw [List.nodup_iff_pairwise_ne,List.pairwise_iff_getElem]
    intro i j hi hj hij
    have:=(zG5 hch i j _ _ hij (List.getElem?_eq_getElem hi) (List.getElem?_eq_getElem hj)).1
    omega
  let I : (Nat → Bool) → Act → World → Prop:=fun f a w=>Abs C (T (pst σ 0 l ss f)) (ηs.getD (cntC es f) []) a w
  refine wp_region_any hm (zNI (C:=C) (K:=Q .normal) (fun σ' η' a w hk hab=>hR _ _ _ _ _ hk hab) hB ss.length hsl hbar I ?_ ?_ _ _ a _ (by simp) ?_ ?_ (fun i _ hi=>?_) ?_)
  · intro f a w hf hI
    refine ⟨_,_,h,?_⟩
    have hc : cntC es f = es.length:=by
      unfold cntC
      rw [List.filter_eq_self.2 fun e he=>hf e (by have:=List.all_eq_true.1 hes e he;simpa using this)]
    simp only [I,hc] at hI
    have:=zFv l (ss.map .y) 0 σ f (fun i hi=>by rw [Nat.zero_add];exact hf i (by simpa using hi))
    rw [hsv] at this
    rw [this] at hI;exact hI
  · intro f j o a w hjm hlj hun hcl hdep hI
    obtain ⟨s,hsj⟩ : ∃ s,ss[j]? = some s:=⟨_,List.getElem?_eq_getElem hjm⟩
    have same:=zGi (σ:=σ) (ss:=ss) hB hlj hun hcl hdep
    have next:=zHt (σ:=σ) hB hlj hsj hun hcl
    obtain ⟨hgd,hdst,hFs,hop⟩:=hat j o s hlj hsj
    rw [Nat.zero_add] at hop
    have hcl' : ∀ j o,l.toArray[j]? = some o → f j = true → ∀ e ∈ o.after,Region.binds .any e = true → f e.on = true:=fun j o ho=>hcl j o (by simpa using ho)
    have hreach : ∀ e,zEP l.toArray l.length j e = true → f e = true:=fun e hr=>zCQ hcl' l.length j o (by simpa using hlj) hdep hr
    simp only [I] at hI
    split at hop
    ·
      rename_i i hi
      have hei:=zLa es j _ hi
      obtain ⟨d,hd,hE⟩:=hop
      have hcnt : cntC es f = i:=zRA (fun b x hb=>by
        rcases Nat.lt_trichotomy b i with hlt | heq | hgt
        · rw [hreach x (zG5 hch b i x j hlt hb hei).2];exact (decide_eq_true hlt).symm
        · subst heq;rw [hb] at hei;injection hei with hei;subst hei;rw [hun];simp
        · have hr:=(zG5 hch i b j x hgt hei hb).2
          cases hfx : f x with
          | false=>exact (decide_eq_false (by omega)).symm
          | true =>
            exfalso
            have hxl : ∃ ox,l[x]? = some ox:=by
              have hxs : x < ss.length:=by have:=List.all_eq_true.1 hes x (List.mem_of_getElem? hb);simpa using this
              exact ⟨_,List.getElem?_eq_getElem (by omega)⟩
            obtain ⟨ox,hox⟩:=hxl
            have:=zCQ hcl' l.length x ox (by simpa using hox) (fun e he hbn=>hcl x ox hox hfx e he hbn) hr
            rw [hun] at this;cases this) (by have:=(List.getElem?_eq_some_iff.1 hei).1;omega)
      rw [hcnt] at hI
      refine .inl ⟨by unfold Region.wanted;rw [hgd],?_⟩
      refine Oper.wp_mono ?_ (hE _ (fun t ht=>by rw [hT,same t ht]) _ a w hI)
      rintro a' w' ⟨σ',η'',⟨rfl,rfl⟩,hab⟩
      simp only [I,zS6 hnd hei hun,hcnt]
      refine hab.le fun t=>.inl ?_
      have hn2:=next t
      rw [hd] at hn2
      simp only [put,zBU] at hn2 ⊢
      rw [hT, ← hn2]
      by_cases h5 : d = t
      · rw [if_pos h5,if_pos h5,hFs]
      · rw [if_neg h5,if_neg h5,hT,hT,hFF]
    ·
      rename_i hi
      have hnm:=zLb hi
      have hlow : lowC l es j ≤ cntC es f:=by unfold lowC;exact zUn (f:=fun e=>zEP l.toArray l.length j e) fun k _ hk=>hreach k hk
      have hlen : cntC es f < ηs.length:=by
        have : cntC es f ≤ es.length:=List.length_filter_le _ _
        omega
      have hη2 : ηs[cntC es f]? = some (ηs.getD (cntC es f) []):=by
        rw [List.getD_eq_getElem?_getD,List.getElem?_eq_getElem hlen];rfl
      have hy : Ylds C.P (ηs.getD (cntC es f) []) (T (pst σ 0 l ss f)) o s:=hop _ _ hlow hη2 _ fun x hx=>by
        cases x with
        | tmp t=>show get _ t = get _ t;rw [hT,hT,same t (zBZ hx)]
        | _=>rfl
      obtain ⟨g,h1⟩:=hI
      refine .inl ⟨by unfold Region.wanted;rw [hgd],?_⟩
      refine hy.wp hdst (fun a' w' hab=>?_) h1
      simp only [I,zS7 hnm]
      refine hab.le fun t=>.inl ?_
      have hn2:=next t
      cases hdd : o.dst with
      | none =>
        rw [hdd] at hn2
        simp only [put] at hn2 ⊢
        rw [hT,hT,hn2]
      | some d =>
        rw [hdd] at hn2
        simp only [put,zBU] at hn2 ⊢
        rw [hT, ← hn2]
        by_cases h5 : d = t
        · rw [if_pos h5,if_pos h5,hFs]
        · rw [if_neg h5,if_neg h5,hT]
  · refine Nat.le_trans (List.length_filter_le _ _) (by simp)
  · intro j o hj hl
    have hjl : j < l.length:=(List.getElem?_eq_some_iff.1 hj).1
    rw [Array.getD_eq_getD_getElem?,Array.getElem?_eq_getElem (by simpa using hjl)] at hl
    simp at hl
  · rw [Array.getD_eq_getD_getElem?,Array.getElem?_eq_getElem (by simpa using hi)]
    simp
  · have hf0 : ∀ i,i < l.length → (Array.replicate l.toArray.size false).getD i true = false:=fun i hi=>by
      rw [Array.getD_eq_getD_getElem?,Array.getElem?_eq_getElem (by simpa using hi)];simp
    have hc0 : cntC es (fun i=>(Array.replicate l.toArray.size false).getD i true) = 0:=by
      unfold cntC
      rw [List.filter_eq_nil_iff.2 fun e he=>by rw [hf0 e (by have:=List.all_eq_true.1 hes e he;simp at this;omega)];simp];rfl
    simp only [I,hc0]
    obtain ⟨g,hd0⟩:=hd0
    rw [h0]
    refine ⟨g, { hd0 with rep:=fun t=>?_ }⟩
    rw [hT,zB6 t l ss σ σ 0 _ (fun _=>false) rfl (fun i o hi hne=>?_),zDg]
    · exact hF (hd0.rep t)
    · rw [Nat.zero_add,hf0 i (List.getElem?_eq_some_iff.1 hi).1] at hne
      exact absurd rfl hne
theorem zVx (l : List Nat) : (l.any fun i=>List.any [] (Nat.beq i)) = false:=by induction l <;> simp_all
theorem zPX (all : List Nat) (s : SV) : (s.wipe [] all).wipe [] all = s.wipe [] all:=by
  induction s with
  | bptr i k o=>simp only [SV.wipe];cases h : all.any (Nat.beq i) <;> simp [SV.wipe,h]
  | buf i n=>simp only [SV.wipe];cases h : all.any (Nat.beq i) <;> simp [SV.wipe,h]
  | pair a b ha hb=>simp only [SV.wipe,ha,hb]
  | clo f l=>simp only [SV.wipe,zVx]
  | _=>simp [SV.wipe]
theorem zPW (all : List Nat) {g : Gh} {w : World} {v : Value} {s : SV} (h : RepS g w v s) : RepS g w v (s.wipe [] all):=by
  induction s generalizing v with
  | bptr i k o =>
    simp only [SV.wipe]
    split
    · trivial
    · exact h
  | buf i n =>
    simp only [SV.wipe]
    split
    · trivial
    · exact h
  | pair a b ha hb=>obtain ⟨u1,u2,h1,h2,h3⟩:=h;exact ⟨u1,u2,h1,ha h2,hb h3⟩
  | clo f l=>simp only [SV.wipe,zVx];exact h
  | _=>exact h
theorem EStep.call {C : Ctx} {l : List Oper} {σ : Sl} {η : List Ob} {fn : FuncId} {args : List Operand} {ts : Array TypeId} {dE : Nat} {ty : TypeId} {pos : String} {after : Array Edge} {as : List SV} {pre post : List Ob} {res s : SV} {ids : List Nat} {η' : List Ob}
    (hb : zAO C.P fn = true) (hc : zAx C.P fn as pre res post) (ha : SArgs σ ids args as) (hp : Picks η ids pre) (hd : Nat.blt dE C.N = true)
    (hn : ids.Nodup) (hlen : ids.length = pre.length) (hu : zEG pre = true) (hbl : pre.all (Ob.below pre.length) = true) (hba : as.all (SV.bel pre.length) = true) (hk : zDs pre post = true) (hro : ids.all (fun i=>Nat.ble C.ro i) = true)
    (hbx : zBr ids pre = []) (hη' : zCx (zDy [] ids η) ids (post.map (Ob.ren ids)) = η') (hs : res.ren ids = s) :
    ∀ τ,(∀ t,t ∈ (⟨some dE,.call ⟨.value (.func fn),args.toArray,ts⟩,ty,pos,after,none⟩ : Oper).looksAt l.toArray → get τ t = get σ t) →
      EStep C ⟨some dE,.call ⟨.value (.func fn),args.toArray,ts⟩,ty,pos,after,none⟩ (fun σ' η''=>σ' = (dE,s) :: zCi [] ids τ ∧ η'' = η') τ η:=by
  intro τ hτ
  subst hη';subst hs
  have h:=zAy (C:=C) (ops:=#[]) (rest:=[]) (d:=dE) (ty:=ty) (pos:=pos) (after:=after) (gd:=none) (ts:=ts) (σ:=τ) (η:=η) (K:=fun σ' η''=>σ' = (dE,res.ren ids) :: zCi [] ids τ ∧ η'' = zCx (zDy [] ids η) ids (post.map (Ob.ren ids))) ids hb hc (ha.congr fun x hx=>by
    cases x with
    | tmp t=>exact hτ t (zBZ (by simp [Op.operands,Call.operands,hx]))
    | _=>rfl) hp hd hn hlen hu hbl hba hk hro (by rw [hbx];exact zAF ⟨rfl,rfl⟩)
  exact EStep.of h
theorem zMG {C : Ctx} {Q : Exit → Sl → List Ob → Prop} {σ : Sl} {η : List Ob} {id : Nat} {l : List Oper} (ids : List Nat) (ss : List SV) (es : List Nat) (ηs : List (List Ob))
    (hm : C.P.follows .mixedOrders = true) (hB : zDv l = true) (hsl : Nat.ble ss.length l.length = true) (hbar : ss.length = l.length ∨ zFn l.toArray (l.length - ss.length - 1) = true) (hes : (es.all fun e=>Nat.blt e ss.length) = true) (hch : zIx l es = true)
    (hη : Nat.beq ηs.length (es.length + 1) = true) (h0 : ηs.getD 0 [] = η)
    (hs : segC C l es ηs (SV.wipe [] ids) (zCi [] ids) 0 l ss σ) (h : alex C true l.toArray (l.drop ss.length) (Q .normal) (zCi [] ids (segσ l (ss.map .y) σ)) (ηs.getD es.length [])) : awp C (.region id l.toArray true) Q σ η :=
  zRN ss es ηs _ _ hm hB hsl hbar hes hch hη h0 (zDI [] ids) (zPX ids) (zPW ids) hs h
def zET (P : Program) (rs : Array ResultVar) (res : D) (post : List Ob) : Exit → Sl → List Ob → Prop
  | .ret,σ,η=>ResC P rs σ η res ∧ Fits [] post σ η
  | .normal,σ,η=>ResC P rs σ η res ∧ Fits [] post σ η
  | _,_,_=>False
theorem Fits.absG {C : Ctx} {g : Gh} {s σ : Sl} {h η : List Ob} {a : Act} {w : World} (f : Fits s h σ η) (hg : AbsG C g σ η a w) : ∃ g',AbsG C g' s h a w ∧ g'.St = g.St:=by
  obtain ⟨f1,f2,f3,f4⟩:=f
  obtain ⟨r,e1,e2⟩:=f2.ex
  have h1:=hg.get_eq f1
  have hob : ∀ (id : Nat) (o : Ob),(h ++ r)[id]? = some o → ObOk g w id o:=fun id o ho=>by
    obtain ⟨o',q1,q2⟩:=e2 id o ho
    exact q2 g w id (h1.inv.ob id o' q1)
  have hi : Inv g w (h ++ r):={ h1.inv with n:=h1.inv.n.trans e1.symm,ob:=hob }
  have h2 : AbsG C g s (h ++ r) a w:={ h1 with inv:=hi }
  exact ⟨_,h2.cut ⟨r,rfl⟩ f3 f4,rfl⟩
theorem zQI {P : Program} {f : FuncId} {fn : Func} {c : Code} {as : List SV} {pre post : List Ob} {res : D} {N : Nat} {rs : Array ResultVar} (hf : P.funcs[f]? = some fn) (hb : fn.body = some c) (hN : fn.ntmps = N) (hrs : fn.results = rs) (hl : Nat.ble as.length N = true)
    (hk : zCn pre post = true) (hu : zEG post = true)
    (h : ∀ (w0 : World) (St0 : Stab) (X : Nat → Prop) (fx : Nat → Option Nat),awp ⟨P,N,w0,St0,X,0⟩ c (zET P rs res (anch fx 0 pre post)) (zMc as 0) (anch fx 0 pre pre)) : zAx P f as pre (.d res) post:=by
  intro g w vs hi hrep
  subst hN
  have hl:=Nat.le_of_ble_eq_true hl
  have hlen:=hrep.len
  refine calls_of_wp hf hb (h w g.St (fun b=>∃ j,g.blk j = some b) g.blk _ ?_ _ _ ?_)
  · intro e σ' η' a' w' hq ha
    have fin : (ResC P rs σ' η' res ∧ Fits [] (anch g.blk 0 pre post) σ' η') → a'.defers = [] ∧ ∃ v,(results fn a'.tmps).run P w' = .ok v w' ∧ ∃ v_1 g',Ending.returned v = .returned v_1 ∧ Inv g' w' post ∧ RepS g' w' v_1 (.d res) ∧ Frame g w pre g' w':=by
      intro hq
      obtain ⟨hq1,hq2⟩:=hq
      obtain ⟨g0,hg0⟩:=ha
      obtain ⟨v,hr,hrd⟩:=hq1.run (P:=P) hrs hg0
      obtain ⟨g',hA,hSt⟩:=hq2.absG hg0
      obtain ⟨hI,hbx⟩:=hA.inv.unanch hu
      refine ⟨hA.defers,v,hr,v,g',rfl,hI,(by show RepD g'.St w' v res;rw [hSt];exact hrd),⟨hA.os,hA.tape,hA.output,hA.wsize,fun k hk hno=>hA.heap k hk (fun ⟨j,hj⟩=>hno j hj),hA.keep,fun b o hbo=>?_,fun j b hj=>hA.own j b hj (Nat.zero_le _),fun j o hj hob=>?_⟩⟩
      · exact hA.new b o hbo
      · have hjp : j < pre.length:=(List.getElem?_eq_some_iff.1 hj).1
        have hjl : j < post.length:=Nat.lt_of_lt_of_le hjp (zDz hk)
        have hp : post[j]? = some post[j]:=List.getElem?_eq_getElem hjl
        have hs:=zD0 hk j _ _ hj hp
        obtain ⟨b',hb',hc'⟩:=hbx j _ hjp hp (zEC.2 (by rw [← hs];exact zEC.1 hob))
        obtain ⟨b,o1⟩:=zLV (hi.ob j _ hj) hob
        rw [hb',o1,hc' b o1]
    cases e <;> first | exact fin hq | exact hq.elim
  · refine ⟨g,rfl,?_,hi.anch,rfl,rfl,rfl,Nat.le_refl _,fun _ _ _=>rfl,Keep.refl g.St w,fun _ _ h=>.inl h,fun i b hb _=>.inr ⟨i,hb⟩,?_⟩
    · simp [hlen];omega
    · refine zFV vs as 0 _ hrep fun j v hj=>?_
      have hjl : j < vs.length:=(List.getElem?_eq_some_iff.1 hj).1
      simp only [Nat.zero_add,Array.getD_eq_getD_getElem?]
      rw [Array.getElem?_append_left (by simpa using hjl)]
      simp [hj]
theorem zOp {P : Program} {rs : Array ResultVar} {res : D} {post : List Ob} {σ : Sl} {η : List Ob} (h : ResC P rs σ η res) (h2 : Fits [] post σ η) : zET P rs res post .ret σ η:=⟨h,h2⟩
end Go.Sx
namespace Go.Sx
open Go.RowKit
section
variable {C : Ctx} {ops : Array Oper} {rest : List Oper} {K : Sl → List Ob → Prop} {σ : Sl} {η : List Ob} {d : Nat} {ty : TypeId} {pos : String} {after : Array Edge} {gd : Option (Nat × Bool)} {t : TypeId} {x y : Operand}
theorem zV4 {e sz by' : Nat} {xs ys : List D} (id : Nat) {mu0 : Bool} {xs0 : List D} (hid3 : η[id]? = some (.buf mu0 e sz xs0)) (hx : oval σ x = .d (.tsl xs)) (hy : Co η (oval σ y) (.slice ys)) (h0 : Nat.blt 0 ys.length = true)
    (he : zB8 C.P t = some e) (hs : zA9 C.P t = some sz) (hz : zDP C.P e = some sz) (hb : zDK C.P t = some by') (hfx : ∀ d ∈ xs,d.flat.length = sz) (hf : ∀ d ∈ ys,d.flat.length = sz) (hlen : (xs.length + ys.length) * by' ≤ 140737488355328 ∧ xs.length + ys.length ≤ 140737488355328) (hd : Nat.blt d C.N = true) (hro : Nat.ble C.ro id = true)
    (hK : alex C false ops rest K ((d,.buf id (xs.length + ys.length)) :: zIY id σ) ((zGt id η).set id (.buf false e sz (xs ++ ys)))) :
    zA3 C false ops ⟨some d,.call ⟨.builtin .append, #[x,y], #[t,t]⟩,ty,pos,after,gd⟩ rest K σ η:=by
  have h0 : 0 < ys.length:=by simpa using h0
  obtain ⟨e',i,hu,hi',hsz⟩:=zBj hs
  have : e' = e:=by have:=zB9 he;rw [hu] at this;injection this with this;injection this
  subst this
  have hby : i.bytes = by':=by
    obtain ⟨e2,i2,h1,h2,h3⟩:=zEW hb
    rw [hu] at h1;injection h1 with h1;injection h1 with h1;subst h1
    rw [hi'] at h2;injection h2 with h2;subst h2;exact h3
  obtain ⟨zv,hzz,hzs⟩:=zFO hi' hz
  refine zHV (fun g a w ha=>?_) hK
  have hi:=ha.inv
  have hxr:=ha.eval x;rw [hx] at hxr
  obtain ⟨sa,hxv,hxr⟩ : ∃ sa,a.eval x = .slice sa xs.length xs.length ∧ RepD g.St w (.slice sa xs.length xs.length) (.slice xs):=by
    change RepD _ _ _ _ at hxr
    generalize a.eval x = v at hxr
    cases hxr with
    | tsl sa n xs h =>
      have : n = xs.length:=by cases h;assumption
      subst this;exact ⟨sa,rfl,h⟩
  obtain ⟨sa',cap',olds,hv',_,_,hol,ho1,hocell,horep⟩:=hxr.open_slice hfx
  injection hv' with hv1 hv2 hv3;subst hv1;subst hv3
  have hyr:=(hy.rep hi (ha.eval y)).open_slice hf
  obtain ⟨ya,yc,news,hyv,_,_,hnl,hn1,hncell,hnrep⟩:=hyr
  obtain ⟨ad,rfl,hnc⟩:=hncell h0
  have hsrc : Src C.P i.size t (.slice (some ad) ys.length yc) ys.length news w:=Src.ofSlice w hu ad ys.length yc news (by rw [hnl,hsz]) (fun j u hj=>(hnc j u hj).2) hn1
  have hold : (Builtin.firstCells i.size xs.length (.slice sa xs.length xs.length)).run C.P w.drew = .ok olds.toArray w.drew:=by
    rcases Nat.eq_zero_or_pos xs.length with hz0 | hz0
    · have hon : olds = []:=List.eq_nil_of_length_eq_zero (by rw [hol,hz0];simp)
      rw [hz0,hon]
      cases sa with
      | none=>exact run_firstCells_none w.drew i.size 0 0 0
      | some b=>exact run_firstCells_some w.drew i.size 0 b 0 0 [] (by simp) (fun j u hj=>by simp at hj)
    · obtain ⟨b,rfl,hbc⟩:=hocell hz0
      exact run_firstCells_some w.drew i.size xs.length b xs.length xs.length olds (by rw [hol,hsz]) (fun j u hj=>by simpa using (hbc j u hj).2)
  have hfit : Builtin.nextslicecap (xs.length + ys.length) xs.length * i.bytes ≤ 281474976710656:=growslice_fits (by omega) (by rw [hby];exact hlen.1)
  have hrun:=run_append_grow_src (P:=C.P) w t t ty e' i zv hu hi' hzz sa xs.length xs.length olds hold _ _ _ hsrc (by omega) (by omega) hfit
  generalize hcells : (olds ++ news).toArray ++ Builtin.zeroCells zv.cells (grownCap w (xs.length + ys.length) xs.length e' - (xs.length + ys.length)) = us' at hrun
  have hge:=grownCap_ge w (xs.length + ys.length) xs.length e'
  have hcm:=grownCap_le_maxLen w (xs.length + ys.length) xs.length e' (by simp only [maxLen];omega)
  have hat : ∀ j,j < (xs.length + ys.length) * sz → us'[j]? = (olds ++ news)[j]?:=fun j hj=>by
    rw [← hcells,Array.getElem?_append_left (by simp only [List.size_toArray,List.length_append,hol,hnl];rw [← Nat.add_mul];exact hj)];simp
  have hcell : ∀ (j : Nat) (u : Value),(olds ++ news)[j]? = some u → (w.drew.alloc (.cells us' e')).cell? ⟨w.heap.size,j,none⟩ = some u:=fun j u hj=>by
    have hjl:=(List.getElem?_eq_some_iff.1 hj).1
    rw [List.length_append,hol,hnl, ← Nat.add_mul] at hjl
    rw [cell_of_row _ w.heap.size j us' e' (0,0) (_root_.Go.heap_alloc_new w.drew _),hat j hjl];exact hj
  have hsz' : us'.size = grownCap w (xs.length + ys.length) xs.length e' * sz:=by
    rw [← hcells]
    simp only [Array.size_append,List.size_toArray,List.length_append,hol,hnl,size_zeroCells,hzs]
    rw [← Nat.add_mul, ← Nat.add_mul];congr 1;omega
  obtain ⟨p1,_⟩:=ha.inv.ob id _ hid3
  have hidl : id < g.n:=by rw [ha.inv.n];exact (List.getElem?_eq_some_iff.1 hid3).1
  let St' : Stab:=fun b o=>g.St b o ∨ (b = w.heap.size ∧ o < (xs.length + ys.length) * sz)
  have hh : ∀ k,k < w.heap.size → (w.drew.alloc (.cells us' e')).heap[k]? = w.heap[k]?:=fun k hk=>Below.heap_alloc w.drew _ k hk
  have kp : Keep g.St w St' (w.drew.alloc (.cells us' e')):=⟨fun _ _ h=>.inl h,fun b o u hb hc=>(World.cell?_of_block (w:=w) (a:=⟨b,o,none⟩) (hh b (hi.st b o hb))).trans hc,fun b hb=>hh b (hi.st b 0 (hb 0))⟩
  have hbuf:=ha.setBuf (w':=w.drew.alloc (.cells us' e')) (ob':=some w.heap.size) (cap':=grownCap w (xs.length + ys.length) xs.length e') (mu':=false) (xs':=xs ++ ys) (St':=St') hid3 (Nat.le_of_ble_eq_true hro) rfl rfl rfl (by simp) (fun k hk _=>hh k hk)
    (fun b hb=>by injection hb with hb;subst hb;exact ⟨.inr (Nat.le_refl _),by simp⟩) kp (fun b o hb=>hb.imp_right fun h=>by rw [h.1]) (fun b o hb=>by
      rcases hb with hb | ⟨rfl,_⟩
      · exact Nat.lt_of_lt_of_le (ha.inv.st b o hb) (by simp)
      · simp) ⟨p1,fun d hd=>by
      rcases List.mem_append.1 hd with h | h
      · exact hfx d h
      · exact hf d h,by simpa [upd] using hcm,by simp [upd];exact hge,.inr ⟨w.heap.size,us',by simp [upd],_root_.Go.heap_alloc_new w.drew _,by simpa [upd] using hsz',fun j u hj hu=>by
        rw [List.length_append] at hj
        rw [hat j hj] at hu
        rcases List.mem_append.1 (List.mem_of_getElem? hu) with h | h
        · exact ho1 u h
        · exact hn1 u h,fun j u d hu hd=>by
        have hjl:=(List.getElem?_eq_some_iff.1 hd).1
        rw [zCh,List.length_append,zBh hfx,zBh hf, ← Nat.add_mul] at hjl
        rw [hat j hjl] at hu
        rw [zCh] at hd
        refine RepD.keep kp ?_
        rcases Nat.lt_or_ge j olds.length with h1 | h1
        · rw [List.getElem?_append_left h1] at hu
          rw [List.getElem?_append_left (by rw [zBh hfx, ← hol];exact h1)] at hd
          exact horep j u d hu hd
        · rw [List.getElem?_append_right h1] at hu
          rw [List.getElem?_append_right (by rw [zBh hfx, ← hol];exact h1)] at hd
          rw [zBh hfx, ← hol] at hd
          exact hnrep _ u d hu hd,fun o=>⟨fun hb=>by
        rcases hb with hb | ⟨_,hb⟩
        · exact absurd (ha.inv.st _ o hb) (by omega)
        · exact ⟨rfl,by rw [List.length_append];exact hb⟩,fun hb=>.inr ⟨rfl,by rw [← List.length_append];exact hb.2⟩⟩⟩⟩
  refine ⟨.slice (some ⟨w.heap.size,0,none⟩) (xs.length + ys.length) (grownCap w (xs.length + ys.length) xs.length e'),w.drew.alloc (.cells us' e'),?_,_,hbuf.put (d:=some d) hd ?_⟩
  · simp only [execOp,resolve,invoke,builtin,Sem.run_bind,Sem.run_pure,Result.andThen_ok,List.map_toArray,List.map_cons,List.map_nil,hxv,hyv,hrun]
  · refine ⟨hidl,?_⟩
    show _ = Value.slice ((upd g.blk id (some w.heap.size) id).map _) _ (upd g.cap id _ id)
    simp [upd]
theorem zRI {Q : Exit → Sl → List Ob → Prop} {c : Code} (mu : Bool) (e sz : Nat) (hro : Nat.ble C.ro η.length = true) (h : awp C c Q σ (η ++ [.buf mu e sz []])) : awp C c Q σ η:=by
  intro R hR a w ⟨g,ha⟩
  refine h R hR a w ?_
  have hn:=ha.inv.n
  let g' : Gh:={ g with blk:=upd g.blk g.n none,cap:=upd g.cap g.n 0,sz:=upd g.sz g.n sz,n:=g.n + 1 }
  have hold : ∀ id,id < g.n → g'.blk id = g.blk id ∧ g'.cap id = g.cap id ∧ g'.sz id = g.sz id:=fun id hid=>by simp [g',upd,Nat.ne_of_lt hid]
  exact ⟨g',ha.newOb (g':=g') (w':=w) (.buf mu e sz []) rfl rfl rfl (Nat.le_refl _) (fun _ _=>rfl) rfl hold (fun id hid=>by
      have hne : id ≠ g.n:=by omega
      simp only [g',upd,if_neg hne]
      exact ha.inv.dead id (by omega)) (fun b hb=>by simp [g',upd] at hb) (fun _ _ h=>h) (fun _ _ h=>.inl h) ha.inv.st (by rw [hn];exact Nat.le_of_ble_eq_true hro)
    ⟨by simp [g',upd],by simp,by simp [g',upd],by simp,.inl ⟨by simp [g',upd],by simp [g',upd]⟩⟩⟩
end
theorem zRd {P : Program} {η : List Ob} {σ : Sl} {dst : Option Nat} {ty : TypeId} {pos : String} {after : Array Edge} {gd : Option (Nat × Bool)} {x : Operand} {id n e sz : Nat} {xs : List D} (hx : oval σ x = .buf id n) (ho : η[id]? = some (.buf false e sz xs)) (hn : n = xs.length) :
    Ylds P η σ ⟨dst,.move x,ty,pos,after,gd⟩ (.d (.slice xs)) :=
  Ylds.same fun g w a hi h=>⟨a.eval x,rfl,by
    have h0:=h x (by simp [Op.operands]);rw [hx] at h0
    exact Co.rep hi h0 (zOR ho hn)⟩
end Go.Sx
namespace Go.Sx
open Go.RowKit
section
variable {C : Ctx} {l : List Oper} {es : List Nat} {ηs : List (List Ob)} {j : Nat} {r : List Oper} {s : SV} {ss : List SV} {σ : Sl} {ids : List Nat}
theorem zHB {o : Oper} : YAll C σ o s []:=trivial
theorem zFs {o : Oper} {η : List Ob} {L : List (List Ob)} (h : Ylds C.P η σ o s) (hr : YAll C σ o s L) : YAll C σ o s (η :: L):=⟨h,hr⟩
theorem zGh : segC C l es ηs (SV.wipe [] ids) (zCi [] ids) j r [] σ:=by cases r <;> trivial
theorem YAll.drop {o : Oper} : ∀ {L : List (List Ob)} (_ : YAll C σ o s L) (k : Nat),YAll C σ o s (L.drop k)
  | _,h,0=>h
  | [],_,_k + 1=>trivial
  | _ :: L,h,k + 1=>YAll.drop (L:=L) h.2 k
theorem zLC {o : Oper} (hi : idxC es j = none) (hg : o.guard = none) (hd : zFI C.N o.dst) (hF : s.wipe [] ids = s) (hr : segC C l es ηs (SV.wipe [] ids) (zCi [] ids) (j + 1) r ss (put σ o.dst s)) (h : YAll C (zCi [] ids σ) o s ηs) :
    segC C l es ηs (SV.wipe [] ids) (zCi [] ids) j (o :: r) (s :: ss) σ:=by
  refine ⟨⟨hg,hd,hF,?_⟩,hr⟩
  unfold zSH
  rw [hi]
  exact h.drop _
theorem zTa {fn : FuncId} {args : List Operand} {ts : Array TypeId} {dE : Nat} {ty : TypeId} {pos : String} {after : Array Edge} {as : List SV} {pre post : List Ob} {res : SV} {ηk : List Ob} (i : Nat) (hi : idxC es j = some i) (hk0 : ηs.getD i [] = ηk)
    (hb : zAO C.P fn = true) (hc : zAx C.P fn as pre res post) (ha : SArgs (zCi [] ids σ) ids args as) (hp : Picks ηk ids pre) (hd : Nat.blt dE C.N = true)
    (hn : ids.Nodup) (hlen : ids.length = pre.length) (hu : zEG pre = true) (hbl : pre.all (Ob.below pre.length) = true) (hba : as.all (SV.bel pre.length) = true) (hk : zDs pre post = true) (hro : ids.all (fun i=>Nat.ble C.ro i) = true)
    (hbx : zBr ids pre = []) (hη' : ηs.getD (i + 1) [] = zCx (zDy [] ids ηk) ids (post.map (Ob.ren ids))) (hs : res.ren ids = s) (hF : s.wipe [] ids = s) (hr : segC C l es ηs (SV.wipe [] ids) (zCi [] ids) (j + 1) r ss ((dE,s) :: σ)) :
    segC C l es ηs (SV.wipe [] ids) (zCi [] ids) j (⟨some dE,.call ⟨.value (.func fn),args.toArray,ts⟩,ty,pos,after,none⟩ :: r) (s :: ss) σ:=by
  subst hk0
  refine ⟨⟨rfl,hd,hF,?_⟩,hr⟩
  unfold zSH
  rw [hi]
  exact ⟨dE,rfl,EStep.call hb hc ha hp hd hn hlen hu hbl hba hk hro hbx hη'.symm hs⟩
theorem zHM {fn : FuncId} {args : List Operand} {ts : Array TypeId} {dE : Nat} {ty : TypeId} {pos : String} {after : Array Edge} {as : List SV} {pre post : List Ob} {res : SV} {η0 η1 : List Ob} {R : List (List Ob)} (hi : idxC es j = some 0)
    (hb : zAO C.P fn = true) (hc : zAx C.P fn as pre res post) (ha : SArgs (zCi [] ids σ) ids args as) (hp : Picks η0 ids pre) (hd : Nat.blt dE C.N = true)
    (hn : ids.Nodup) (hlen : ids.length = pre.length) (hu : zEG pre = true) (hbl : pre.all (Ob.below pre.length) = true) (hba : as.all (SV.bel pre.length) = true) (hk : zDs pre post = true) (hro : ids.all (fun i=>Nat.ble C.ro i) = true)
    (hbx : zBr ids pre = []) (hη' : zCx (zDy [] ids η0) ids (post.map (Ob.ren ids)) = η1) (hs : res.ren ids = s) (hF : s.wipe [] ids = s) (hr : segC C l es (η0 :: η1 :: R) (SV.wipe [] ids) (zCi [] ids) (j + 1) r ss ((dE,s) :: σ)) :
    segC C l es (η0 :: η1 :: R) (SV.wipe [] ids) (zCi [] ids) j (⟨some dE,.call ⟨.value (.func fn),args.toArray,ts⟩,ty,pos,after,none⟩ :: r) (s :: ss) σ :=
  zTa 0 hi rfl hb hc ha hp hd hn hlen hu hbl hba hk hro hbx hη'.symm hs hF hr
theorem zMb {fn : FuncId} {args : List Operand} {ts : Array TypeId} {dE : Nat} {ty : TypeId} {pos : String} {after : Array Edge} {as : List SV} {pre post : List Ob} {res : SV} {η0 η1 η2 : List Ob} {R : List (List Ob)} (hi : idxC es j = some 1)
    (hb : zAO C.P fn = true) (hc : zAx C.P fn as pre res post) (ha : SArgs (zCi [] ids σ) ids args as) (hp : Picks η1 ids pre) (hd : Nat.blt dE C.N = true)
    (hn : ids.Nodup) (hlen : ids.length = pre.length) (hu : zEG pre = true) (hbl : pre.all (Ob.below pre.length) = true) (hba : as.all (SV.bel pre.length) = true) (hk : zDs pre post = true) (hro : ids.all (fun i=>Nat.ble C.ro i) = true)
    (hbx : zBr ids pre = []) (hη' : zCx (zDy [] ids η1) ids (post.map (Ob.ren ids)) = η2) (hs : res.ren ids = s) (hF : s.wipe [] ids = s) (hr : segC C l es (η0 :: η1 :: η2 :: R) (SV.wipe [] ids) (zCi [] ids) (j + 1) r ss ((dE,s) :: σ)) :
    segC C l es (η0 :: η1 :: η2 :: R) (SV.wipe [] ids) (zCi [] ids) j (⟨some dE,.call ⟨.value (.func fn),args.toArray,ts⟩,ty,pos,after,none⟩ :: r) (s :: ss) σ :=
  zTa 1 hi rfl hb hc ha hp hd hn hlen hu hbl hba hk hro hbx hη'.symm hs hF hr
theorem zBt {Q : Exit → Sl → List Ob → Prop} {η h : List Ob} {s : Sl} {id : Nat} {o : Array Oper} {dr : Bool} {c : Code} (f : Fits s h σ η) (hw : awp C (.region id o dr) (zBP (awp C c Q) Q) s h) : awp C ((Code.region id o dr).seq c) Q σ η:=zRL f (zAH hw)
theorem zPC {Q : Exit → Sl → List Ob → Prop} {η : List Ob} {id : Nat} {o : Array Oper} {dr : Bool} {c : Code} (mu : Bool) (e sz : Nat) (hro : Nat.ble C.ro η.length = true) (hw : awp C (.region id o dr) (zBP (awp C c Q) Q) σ (η ++ [.buf mu e sz []])) : awp C ((Code.region id o dr).seq c) Q σ η:=zRI mu e sz hro (zAH hw)
theorem zHX {Q : Exit → Sl → List Ob → Prop} {η η1 : List Ob} {id : Nat} (ids : List Nat) (ss : List SV) (e : Nat)
    (hm : C.P.follows .mixedOrders = true) (hB : zDv l = true) (hsl : Nat.ble ss.length l.length = true) (hbar : ss.length = l.length ∨ zFn l.toArray (l.length - ss.length - 1) = true) (hes : Nat.blt e ss.length = true)
    (hs : segC C l [e] [η,η1] (SV.wipe [] ids) (zCi [] ids) 0 l ss σ) (h : alex C true l.toArray (l.drop ss.length) (Q .normal) (zCi [] ids (segσ l (ss.map .y) σ)) η1) : awp C (.region id l.toArray true) Q σ η :=
  zMG ids ss [e] [η,η1] hm hB hsl hbar (by simpa using hes) rfl rfl rfl hs h
theorem zHW {Q : Exit → Sl → List Ob → Prop} {η η1 η2 : List Ob} {id : Nat} (ids : List Nat) (ss : List SV) (e f : Nat)
    (hm : C.P.follows .mixedOrders = true) (hB : zDv l = true) (hsl : Nat.ble ss.length l.length = true) (hbar : ss.length = l.length ∨ zFn l.toArray (l.length - ss.length - 1) = true) (hes : Nat.blt e ss.length = true) (hfs : Nat.blt f ss.length = true) (hef : Nat.blt e f = true) (hr : zEP l.toArray l.length f e = true)
    (hs : segC C l [e,f] [η,η1,η2] (SV.wipe [] ids) (zCi [] ids) 0 l ss σ) (h : alex C true l.toArray (l.drop ss.length) (Q .normal) (zCi [] ids (segσ l (ss.map .y) σ)) η2) : awp C (.region id l.toArray true) Q σ η :=
  zMG ids ss [e,f] [η,η1,η2] hm hB hsl hbar (by simp only [List.all_cons,List.all_nil,hes,hfs,Bool.and_true]) (by simp only [zIx,List.all_cons,List.all_nil,hef,hr,Bool.and_true]) rfl rfl hs h
end
end Go.Sx
