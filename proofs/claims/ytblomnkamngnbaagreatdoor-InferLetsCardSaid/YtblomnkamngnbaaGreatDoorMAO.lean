/- Texts of this claim, merged: TypH, TypV, TypW, TypX, TypP. -/
import Derived.Test.YtblomnkamngnbaaGreatDoorMAI
import Derived.Test.YtblomnkamngnbaaGreatDoorMAN
namespace Go.Proofs.YtblomnkamngnbaaGreatDoor
open Go.Sx
def kidS (n : Nat) (a b : List Nd) (p : Int × Sto) (i : Nat) : Option (Int × Sto) :=
  if p.1 ≠ 0 then some p else
    match (zBn a 0)[i]?,(zBn b 0)[i]? with
    | some k,some l=>(match cutO a k (endF a k),cutO b l (endF b l) with
      | some u,some v=>zEk n p.2 u v
      | _,_=>none)
    | _,_=>none
theorem zFw (n : Nat) (L : Sto) (a0 b0 : List Nd) : zEk (n + 1) L a0 b0 = match zD2 n L a0,zD2 n L b0 with
    | some a,some b=>match a[0]?,b[0]? with
      | some x,some y =>
        if a.length > 4000 ∨ b.length > 4000 then none
        else if x.kind = 31 ∧ y.kind = 31 then (if x.num ≠ y.num then some (0,putA L (max x.num y.num) (varN (min x.num y.num))) else some (0,L))
        else if y.kind = 31 then zEk n L b a
        else if x.kind = 31 then (match inF n L x.num b [] with
          | some (true,_)=>some (91,L)
          | some (false,_)=>some (0,putA L x.num b)
          | none=>none)
        else if x ≠ y then some (91,L)
        else zBc (kidS n a b) (0,L) (List.range (zBn a 0).length)
      | _,_=>none
    | _,_=>none:=rfl
def StoB (L : Sto) : Prop:=∀ p ∈ L,p.2.length ≤ 1000000
theorem zJ7 {β : Type} : ∀ {L : List (Int × β)} {a : Int} {d : β} {p : Int × β},p ∈ putA L a d → p ∈ L ∨ p = (a,d)
  | [],a,d,p,h=>by simp [putA] at h;exact .inr h
  | (k,e) :: r,a,d,p,h=>by
    unfold putA at h
    split at h
    · rename_i hk;subst hk
      rcases List.mem_cons.1 h with h | h
      · exact .inr h
      · exact .inl (by simp [h])
    · rcases List.mem_cons.1 h with h | h
      · exact .inl (by simp [h])
      · rcases zJ7 h with h | h
        · exact .inl (by simp [h])
        · exact .inr h
theorem StoB.put {L : Sto} (h : StoB L) {a : Int} {t : List Nd} (ht : t.length ≤ 1000000) : StoB (putA L a t):=fun p hp=>by
  rcases zJ7 hp with h1 | h1
  · exact h p h1
  · rw [h1];exact ht
theorem zJ2 : ∀ (n : Nat) (L : Sto) (a b : List Nd) (r : Int × Sto),StoB L → zEk n L a b = some r → StoB r.2
  | 0,_,_,_,_,_,h=>by cases h
  | n + 1,L,a0,b0,r,hL,h=>by
    have ih:=zJ2 n
    rw [zFw] at h
    split at h
    · rename_i a b _ _
      split at h
      · rename_i x y _ _
        split at h
        · cases h
        · split at h
          · split at h
            · injection h with h;subst h;exact hL.put (by simp [varN])
            · injection h with h;subst h;exact hL
          · split at h
            · exact ih _ _ _ _ hL h
            · split at h
              · split at h
                · injection h with h;subst h;exact hL
                · injection h with h;subst h;exact hL.put (by omega)
                · cases h
              · split at h
                · injection h with h;subst h;exact hL
                · refine zEt (J:=fun p : Int × Sto=>StoB p.2) (fun p i c hp hc=>?_) hL h
                  unfold kidS at hc
                  split at hc
                  · injection hc with hc;subst hc;exact hp
                  · split at hc
                    · split at hc
                      · exact ih _ _ _ _ hp hc
                      · cases hc
                    · cases hc
      · cases h
    · cases h
theorem zEZ {P : Program} {η : List Ob} {σ : Sl} {dst : Option Nat} {ty : TypeId} {pos : String} {after : Array Edge} {gd : Option (Nat × Bool)} {t : TypeId} {p q : Operand} {a : List Nd} {x : Nd} (hx : a[0]? = some x) (hp : oval σ p = .d (zAc a)) (hq : oval σ q = .d (i64 0)) (hs : zA9 P t = some 4) :
    Ylds P η σ ⟨dst,.indexAddr t p q,ty,pos,after,gd⟩ (.rptr x.av.flat) :=
  zHA (xs:=a.map Nd.av) (zAn hp) hq hs (by simp) (by show (a.map Nd.av)[(0 : Int).toNat]? = _;rw [Int.toNat_zero,List.getElem?_map,hx];rfl) (fun d hd=>by obtain ⟨v,_,rfl⟩:=List.mem_map.1 hd;rfl)
theorem zHZ {P : Program} {η : List Ob} {σ : Sl} {dst : Option Nat} {ty : TypeId} {pos : String} {after : Array Edge} {gd : Option (Nat × Bool)} {t : TypeId} {p q : Operand} {A : List Int} {i : Nat} {k : Int} (hk : A[i]? = some k) (hp : oval σ p = .d (zBv A)) (hq : oval σ q = .d (i64 (i : Int))) (hs : zA9 P t = some 1) :
    Ylds P η σ ⟨dst,.indexAddr t p q,ty,pos,after,gd⟩ (.rptr (ival k).flat) :=
  zHA (xs:=A.map ival) (zAn hp) hq hs (by omega) (by show (A.map ival)[((i : Int)).toNat]? = _;rw [Int.toNat_natCast,List.getElem?_map,hk];rfl) (fun d hd=>by obtain ⟨v,_,rfl⟩:=List.mem_map.1 hd;rfl)
theorem zRi {P : Program} {η : List Ob} {σ : Sl} {dst : Option Nat} {ty : TypeId} {pos : String} {after : Array Edge} {gd : Option (Nat × Bool)} {t : TypeId} {p q r : Operand} {A u : List Nd} {k l : Int} (hu : cutO A k l = some u) (hp : oval σ p = .d (zAc A)) (hq : oval σ q = .d (i64 k)) (hr : oval σ r = .d (i64 l)) (hs : zA9 P t = some 4) :
    Ylds P η σ ⟨dst,.slice t p (some q) (some r) none,ty,pos,after,gd⟩ (.d (zAc u)):=by
  unfold cutO at hu
  split at hu
  · rename_i h
    injection hu with hu;subst hu
    exact Y_sl (enc:=Nd.av) (zAn hp) hs hq hr (fun _=>rfl) h
  · cases hu
theorem kids_len (L : List Nd) (a : Int) : (zBn L a).length ≤ L.length:=by
  by_cases h : endF L a < 0
  · rw [zBn,if_pos h];simp
  · obtain ⟨k,x,_,_,h1,h2,_,_,h3⟩:=zTh h
    rw [h3,List.length_map,List.length_range];omega
theorem zRb {η : List Ob} {σ : Sl} {dst : Option Nat} {ty : TypeId} {pos : String} {after : Array Edge} {gd : Option (Nat × Bool)} {x y : Operand} {yt : TypeId} {a b : Nd} (h : a ≠ b) (hx : oval σ x = .d a.av) (hy : oval σ y = .d b.av) :
    Ylds Tryz.prog η σ ⟨dst,.binOp .neq 40 x y yt,ty,pos,after,gd⟩ (.d (.val (.bool true))):=by
  have:=zKp (η:=η) (dst:=dst) (ty:=ty) (pos:=pos) (after:=after) (gd:=gd) (yt:=yt) hx hy
  rwa [decide_eq_true h] at this
theorem zRc {η : List Ob} {σ : Sl} {dst : Option Nat} {ty : TypeId} {pos : String} {after : Array Edge} {gd : Option (Nat × Bool)} {x y : Operand} {yt : TypeId} {a b : Nd} (h : a = b) (hx : oval σ x = .d a.av) (hy : oval σ y = .d b.av) :
    Ylds Tryz.prog η σ ⟨dst,.binOp .neq 40 x y yt,ty,pos,after,gd⟩ (.d (.val (.bool false))):=by
  have:=zKp (η:=η) (dst:=dst) (ty:=ty) (pos:=pos) (after:=after) (gd:=gd) (yt:=yt) hx hy
  rwa [decide_eq_false (by simp [h])] at this
theorem zIq {α β : Type} {f : β → α → Option β} : ∀ (L1 L2 : List α) (b : β),zBc f b (L1 ++ L2) = (zBc f b L1).bind fun c=>zBc f c L2
  | [],L2,b=>rfl
  | x :: L1,L2,b=>by
    simp only [List.cons_append,zBc]
    cases f b x with
    | none=>rfl
    | some c=>exact zIq L1 L2 c
theorem zJb {α β : Type} {f : β → α → Option β} {c : β} (h : ∀ x,f c x = some c) : ∀ L : List α,zBc f c L = some c
  | []=>rfl
  | x :: L=>by simp only [zBc,h];exact zJb h L
theorem zQq {α β : Type} {f : β → α → Option β} {L : List α} {b c r : β} {i : Nat} (h : ∀ x,f c x = some c) (hc : zBc f b (L.take i) = some c) (hr : zBc f b L = some r) : r = c:=by
  rw [← List.take_append_drop i L,zIq,hc,Option.bind_some,zJb h] at hr
  injection hr with hr;exact hr.symm
theorem zVV {n : Nat} {a b : List Nd} {S : Sto} {i : Nat} {c : Int × Sto} (h : kidS n a b (0,S) i = some c) : ∃ k l u v,(zBn a 0)[i]? = some k ∧ (zBn b 0)[i]? = some l ∧ cutO a k (endF a k) = some u ∧ cutO b l (endF b l) = some v ∧ zEk n S u v = some c:=by
  unfold kidS at h
  simp only [ne_eq,not_true,if_false] at h
  split at h
  · rename_i k l hk hl
    split at h
    · rename_i u v hu hv
      exact ⟨k,l,u,v,hk,hl,hu,hv,h⟩
    · cases h
  · cases h
attribute [local irreducible] zAO Program.underlying Ylds zA3 alex zBY zBN awp zAm zBT zBe zAx zBA zBP zA2 zBR zBX zBa zBq zBI
abbrev zsN : List Value:=[.int .i64 0,.string ByteArray.empty,.int .i64 0,.int .i64 0]
def ndC (x : Nd) : List SV:=[.d (i64 x.kind),.d (.val (.string ⟨x.text.toArray⟩)),.d (i64 x.num),.d (i64 x.kids)]
set_option maxHeartbeats 8000000 in
theorem zPx (nx : Int) : ∀ (n : Nat) (L : Sto) (a0 b0 : List Nd) (e : Int) (L' : Sto),StoB L → zEk n L a0 b0 = some (e,L') →
    zAx Tryz.prog 131 [.ptr 0 0,.d (zAc a0),.d (zAc b0)] (stO nx L) (.d (i64 e)) (stO nx L')
  | 0,_,_,_,_,_,_,h=>by cases h
  | n + 1,L,a0,b0,e,L',hL,h=>by
    have ih:=zPx nx n
    rw [zFw] at h
    split at h
    · rename_i a b ha hb0
      split at h
      · rename_i x y hx hy
        split at h
        · cases h
        · rename_i hlen
          have hla : a.length ≤ 2000000:=by omega
          have hlb : b.length ≤ 2000000:=by omega
          have hhA:=zQa nx L n a0 a ha
          have hhB:=zQa nx L n b0 b hb0
          refine zAw Tryz.func131 rfl Tryz.ntmps131 Tryz.results131 rfl rfl rfl ?_
          intro wb St0 X fx
          split at h
          · rename_i hk
            obtain ⟨hk1,hk2⟩:=hk
            split at h
            · rename_i hne
              injection h with h;injection h with h1 h2;subst h1;subst h2
              repeat' first | (refine zB1 (id:=2) [.y (.d (zAc a)),.y (.rptr x.av.flat),.y (.d (.agg (x.av.flat.take 4))),.y (.d (zAc b)),.y (.rptr y.av.flat),.y (.d (.agg (y.av.flat.take 4))),.mk ⟨7,zsN,40,ndC x⟩ (some 8),.mk ⟨8,zsN,40,zsN.map cst⟩ none,.st 6 ⟨7,zsN,40,ndC x⟩] (by kernel_rfl) (by kernel_rfl) (.inr (by kernel_rfl)) ⟨⟨rfl,zAE rfl⟩,rfl,⟨rfl,zEZ hx rfl rfl zAa⟩,rfl,⟨rfl,zAf rfl zAb rfl⟩,rfl,⟨rfl,zAE rfl⟩,rfl,⟨rfl,zEZ hy rfl rfl zAa⟩,rfl,⟨rfl,zAf rfl zAb rfl⟩,rfl,⟨rfl,rfl,rfl,zAp,by kernel_rfl,rfl⟩,rfl,⟨rfl,rfl,rfl,zAp,by kernel_rfl,rfl⟩,rfl,⟨⟨_,_,_,_,_,rfl,rfl,rfl,zAb,rfl⟩,rfl,rfl,rfl,rfl,rfl⟩,trivial⟩ ?_)|apply en_n|apply zAH|apply zAC|apply zAF|apply w0|(refine zDF (by kernel_rfl) ?_;apply zA0;exact rfl;exact rfl;exact rfl;(with_reducible exact zAb);exact rfl;exact rfl;exact rfl;exact rfl)|(apply zBV;exact rfl;exact rfl;first|assumption|omega)|(apply zCT;exact rfl;exact rfl;first|assumption|omega)|exact zAe rfl|(refine zA6 [0,1] [] rfl rfl zDR (hhA) rfl ?_ rfl (by decide) rfl rfl rfl rfl;(repeat (refine zAI rfl ?_));exact zAM)|(refine zA6 [0,1] [] rfl rfl zDR (hhB) rfl ?_ rfl (by decide) rfl rfl rfl rfl;(repeat (refine zAI rfl ?_));exact zAM)|exact zV8 rfl rfl|exact zRe rfl rfl|(apply zAX (hb:=zIh) (hc:=zIB (min x.num y.num)))|(refine zDF (by kernel_rfl) ?_;apply zG7;exact zFx zAc L (max x.num y.num) (varN (min x.num y.num));exact rfl;exact rfl;exact rfl;exact zAn rfl;(with_reducible exact zHn);(with_reducible exact zEj);exact rfl)|apply ay (hd:=rfl)|exact zAE rfl|exact zAD rfl|exact zAq rfl rfl|exact zAR rfl|(apply zAS;exact rfl;(with_reducible first|exact fs_1|exact fn_0|exact fn_2))|(apply zAV;exact rfl;(with_reducible first|exact zFT|exact zAk|exact zB4);exact rfl;exact rfl)|(apply w1;exact rfl;exact rfl)|(refine w0' ?_)|(apply zAQ;exact rfl)|apply zAJ|apply zAN|refine zBQ (by kernel_rfl) (by kernel_rfl) ?_|apply en_r|apply eb_r|exact zAG|refine zAZ rfl ?_
              exact zAh (zAL (zAA rfl zAW) (zAB rfl rfl (zAB rfl rfl zAK)) rfl rfl)
            · rename_i hne
              have hne : x.num = y.num:=Classical.byContradiction hne
              injection h with h;injection h with h1 h2;subst h1;subst h2
              repeat' first | (refine zB1 (id:=2) [.y (.d (zAc a)),.y (.rptr x.av.flat),.y (.d (.agg (x.av.flat.take 4))),.y (.d (zAc b)),.y (.rptr y.av.flat),.y (.d (.agg (y.av.flat.take 4))),.mk ⟨7,zsN,40,ndC x⟩ (some 8),.mk ⟨8,zsN,40,zsN.map cst⟩ none,.st 6 ⟨7,zsN,40,ndC x⟩] (by kernel_rfl) (by kernel_rfl) (.inr (by kernel_rfl)) ⟨⟨rfl,zAE rfl⟩,rfl,⟨rfl,zEZ hx rfl rfl zAa⟩,rfl,⟨rfl,zAf rfl zAb rfl⟩,rfl,⟨rfl,zAE rfl⟩,rfl,⟨rfl,zEZ hy rfl rfl zAa⟩,rfl,⟨rfl,zAf rfl zAb rfl⟩,rfl,⟨rfl,rfl,rfl,zAp,by kernel_rfl,rfl⟩,rfl,⟨rfl,rfl,rfl,zAp,by kernel_rfl,rfl⟩,rfl,⟨⟨_,_,_,_,_,rfl,rfl,rfl,zAb,rfl⟩,rfl,rfl,rfl,rfl,rfl⟩,trivial⟩ ?_)|apply en_n|apply zAH|apply zAC|apply zAF|apply w0|(refine zDF (by kernel_rfl) ?_;apply zA0;exact rfl;exact rfl;exact rfl;(with_reducible exact zAb);exact rfl;exact rfl;exact rfl;exact rfl)|(apply zBV;exact rfl;exact rfl;first|assumption|omega)|(apply zBm;exact rfl;exact rfl;first|assumption|omega)|(refine zA6 [0,1] [] rfl rfl zDR (hhA) rfl ?_ rfl (by decide) rfl rfl rfl rfl;(repeat (refine zAI rfl ?_));exact zAM)|(refine zA6 [0,1] [] rfl rfl zDR (hhB) rfl ?_ rfl (by decide) rfl rfl rfl rfl;(repeat (refine zAI rfl ?_));exact zAM)|apply ay (hd:=rfl)|exact zAE rfl|exact zAD rfl|exact zAq rfl rfl|exact zAR rfl|(apply zAS;exact rfl;(with_reducible first|exact fn_0|exact fn_2))|(apply zAV;exact rfl;(with_reducible first|exact zAk|exact zB4);exact rfl;exact rfl)|(apply w1;exact rfl;exact rfl)|(refine w0' ?_)|(apply zAQ;exact rfl)|(apply zAU;exact rfl)|apply zAJ|apply zAT|apply zAN|apply en_r|apply eb_r
              exact zAh (zAL (zAA rfl zAW) (zAB rfl rfl (zAB rfl rfl zAK)) rfl rfl)
          · rename_i hk
            split at h
            · rename_i hk2
              have hk1 : x.kind ≠ 31:=fun e=>hk ⟨e,hk2⟩
              have hih:=ih L b a e L' hL h
              repeat' first | (refine zB1 (id:=2) [.y (.d (zAc a)),.y (.rptr x.av.flat),.y (.d (.agg (x.av.flat.take 4))),.y (.d (zAc b)),.y (.rptr y.av.flat),.y (.d (.agg (y.av.flat.take 4))),.mk ⟨7,zsN,40,ndC x⟩ (some 8),.mk ⟨8,zsN,40,zsN.map cst⟩ none,.st 6 ⟨7,zsN,40,ndC x⟩] (by kernel_rfl) (by kernel_rfl) (.inr (by kernel_rfl)) ⟨⟨rfl,zAE rfl⟩,rfl,⟨rfl,zEZ hx rfl rfl zAa⟩,rfl,⟨rfl,zAf rfl zAb rfl⟩,rfl,⟨rfl,zAE rfl⟩,rfl,⟨rfl,zEZ hy rfl rfl zAa⟩,rfl,⟨rfl,zAf rfl zAb rfl⟩,rfl,⟨rfl,rfl,rfl,zAp,by kernel_rfl,rfl⟩,rfl,⟨rfl,rfl,rfl,zAp,by kernel_rfl,rfl⟩,rfl,⟨⟨_,_,_,_,_,rfl,rfl,rfl,zAb,rfl⟩,rfl,rfl,rfl,rfl,rfl⟩,trivial⟩ ?_)|apply en_n|apply zAH|apply zAC|apply zAF|apply w0|(refine zDF (by kernel_rfl) ?_;apply zA0;exact rfl;exact rfl;exact rfl;(with_reducible exact zAb);exact rfl;exact rfl;exact rfl;exact rfl)|(apply k1u (hd:=rfl);exact rfl;exact rfl)|(apply zBV;exact rfl;exact rfl;first|assumption|omega)|(apply zBW;exact rfl;exact rfl;first|assumption|omega)|(refine zA6 [0,1] [] rfl rfl zDR (hhA) rfl ?_ rfl (by decide) rfl rfl rfl rfl;(repeat (refine zAI rfl ?_));exact zAM)|(refine zA6 [0,1] [] rfl rfl zDR (hhB) rfl ?_ rfl (by decide) rfl rfl rfl rfl;(repeat (refine zAI rfl ?_));exact zAM)|(refine zAy [0,1] zKO (hih) ?_ rfl rfl (by decide) rfl rfl rfl rfl rfl rfl ?_;(repeat (refine zAI rfl ?_));exact zAM)|apply ay (hd:=rfl)|exact zAE rfl|exact zAD rfl|exact zAo rfl rfl|exact zAR rfl|(apply zAS;exact rfl;(with_reducible exact fn_0))|(apply zAV;exact rfl;(with_reducible exact zAk);exact rfl;exact rfl)|(refine w0' ?_)|(apply zAQ;exact rfl)|(apply zAU;exact rfl)|apply zAJ|apply zAN|apply en_r|apply eb_r
              exact zAh (zAL (zAA rfl zAW) (zAB rfl rfl (zAB rfl rfl zAK)) rfl rfl)
            · rename_i hk2
              split at h
              · rename_i hk1
                split at h
                · rename_i S1 hin
                  injection h with h;injection h with h1 h2;subst h1;subst h2
                  have hp:=zQD nx L x.num hL n b true S1 (by omega) hin
                  repeat' first | (refine zB1 (id:=2) [.y (.d (zAc a)),.y (.rptr x.av.flat),.y (.d (.agg (x.av.flat.take 4))),.y (.d (zAc b)),.y (.rptr y.av.flat),.y (.d (.agg (y.av.flat.take 4))),.mk ⟨7,zsN,40,ndC x⟩ (some 8),.mk ⟨8,zsN,40,zsN.map cst⟩ none,.st 6 ⟨7,zsN,40,ndC x⟩] (by kernel_rfl) (by kernel_rfl) (.inr (by kernel_rfl)) ⟨⟨rfl,zAE rfl⟩,rfl,⟨rfl,zEZ hx rfl rfl zAa⟩,rfl,⟨rfl,zAf rfl zAb rfl⟩,rfl,⟨rfl,zAE rfl⟩,rfl,⟨rfl,zEZ hy rfl rfl zAa⟩,rfl,⟨rfl,zAf rfl zAb rfl⟩,rfl,⟨rfl,rfl,rfl,zAp,by kernel_rfl,rfl⟩,rfl,⟨rfl,rfl,rfl,zAp,by kernel_rfl,rfl⟩,rfl,⟨⟨_,_,_,_,_,rfl,rfl,rfl,zAb,rfl⟩,rfl,rfl,rfl,rfl,rfl⟩,trivial⟩ ?_)|apply en_n|apply zAH|apply zAC|apply zAF|apply w0|(refine zDF (by kernel_rfl) ?_;apply zA0;exact rfl;exact rfl;exact rfl;(with_reducible exact zAb);exact rfl;exact rfl;exact rfl;exact rfl)|(apply zBV;exact rfl;exact rfl;first|assumption|omega)|(apply zBW;exact rfl;exact rfl;first|assumption|omega)|(refine zA6 [0,1] [] rfl rfl zDR (hhA) rfl ?_ rfl (by decide) rfl rfl rfl rfl;(repeat (refine zAI rfl ?_));exact zAM)|(refine zA6 [0,1] [] rfl rfl zDR (hhB) rfl ?_ rfl (by decide) rfl rfl rfl rfl;(repeat (refine zAI rfl ?_));exact zAM)|(refine zAy [0,1] zQf (hp) ?_ rfl rfl (by decide) rfl rfl rfl rfl rfl rfl ?_;(repeat (refine zAI rfl ?_));exact zAM)|apply ay (hd:=rfl)|exact zAE rfl|exact zAD rfl|exact zAq rfl rfl|exact zAR rfl|(apply zAS;exact rfl;(with_reducible first|exact fn_0|exact fn_2))|(apply zAV;exact rfl;(with_reducible first|exact zAk|exact zB4);exact rfl;exact rfl)|(apply w1;exact rfl;exact rfl)|(refine w0' ?_)|(apply zAQ;exact rfl)|(apply zAU;exact rfl)|apply zAJ|apply zAN|apply en_r|apply eb_r
                  exact zAh (zAL (zAA rfl zAW) (zAB rfl rfl (zAB rfl rfl zAK)) rfl rfl)
                · rename_i S1 hin
                  injection h with h;injection h with h1 h2;subst h1;subst h2
                  have hp:=zQD nx L x.num hL n b false S1 (by omega) hin
                  repeat' first | (refine zB1 (id:=2) [.y (.d (zAc a)),.y (.rptr x.av.flat),.y (.d (.agg (x.av.flat.take 4))),.y (.d (zAc b)),.y (.rptr y.av.flat),.y (.d (.agg (y.av.flat.take 4))),.mk ⟨7,zsN,40,ndC x⟩ (some 8),.mk ⟨8,zsN,40,zsN.map cst⟩ none,.st 6 ⟨7,zsN,40,ndC x⟩] (by kernel_rfl) (by kernel_rfl) (.inr (by kernel_rfl)) ⟨⟨rfl,zAE rfl⟩,rfl,⟨rfl,zEZ hx rfl rfl zAa⟩,rfl,⟨rfl,zAf rfl zAb rfl⟩,rfl,⟨rfl,zAE rfl⟩,rfl,⟨rfl,zEZ hy rfl rfl zAa⟩,rfl,⟨rfl,zAf rfl zAb rfl⟩,rfl,⟨rfl,rfl,rfl,zAp,by kernel_rfl,rfl⟩,rfl,⟨rfl,rfl,rfl,zAp,by kernel_rfl,rfl⟩,rfl,⟨⟨_,_,_,_,_,rfl,rfl,rfl,zAb,rfl⟩,rfl,rfl,rfl,rfl,rfl⟩,trivial⟩ ?_)|apply en_n|apply zAH|apply zAC|apply zAF|apply w0|(refine zDF (by kernel_rfl) ?_;apply zA0;exact rfl;exact rfl;exact rfl;(with_reducible exact zAb);exact rfl;exact rfl;exact rfl;exact rfl)|(apply zBV;exact rfl;exact rfl;first|assumption|omega)|(apply zBW;exact rfl;exact rfl;first|assumption|omega)|exact zAe rfl|(refine zA6 [0,1] [] rfl rfl zDR (hhA) rfl ?_ rfl (by decide) rfl rfl rfl rfl;(repeat (refine zAI rfl ?_));exact zAM)|(refine zA6 [0,1] [] rfl rfl zDR (hhB) rfl ?_ rfl (by decide) rfl rfl rfl rfl;(repeat (refine zAI rfl ?_));exact zAM)|(refine zAy [0,1] zQf (hp) ?_ rfl rfl (by decide) rfl rfl rfl rfl rfl rfl ?_;(repeat (refine zAI rfl ?_));exact zAM)|(refine zDF (by kernel_rfl) ?_;apply zG7;exact zFx zAc L x.num b;exact rfl;exact rfl;exact rfl;exact zAn rfl;(with_reducible exact zHn);(with_reducible exact zEj);exact rfl)|apply ay (hd:=rfl)|exact zAE rfl|exact zAD rfl|exact zAq rfl rfl|exact zAR rfl|(apply zAS;exact rfl;(with_reducible first|exact fs_1|exact fn_0|exact fn_2))|(apply zAV;exact rfl;(with_reducible first|exact zFT|exact zAk|exact zB4);exact rfl;exact rfl)|(apply w1;exact rfl;exact rfl)|(refine w0' ?_)|(apply zAQ;exact rfl)|(apply zAU;exact rfl)|apply zAJ|apply zAT|apply zAN|refine zBQ (by kernel_rfl) (by kernel_rfl) ?_|apply en_r|apply eb_r
                  exact zAh (zAL (zAA rfl zAW) (zAB rfl rfl (zAB rfl rfl zAK)) rfl rfl)
                · cases h
              · rename_i hk1
                split at h
                · rename_i hxy
                  injection h with h;injection h with h1 h2;subst h1;subst h2
                  repeat' first | (refine zB1 (id:=2) [.y (.d (zAc a)),.y (.rptr x.av.flat),.y (.d (.agg (x.av.flat.take 4))),.y (.d (zAc b)),.y (.rptr y.av.flat),.y (.d (.agg (y.av.flat.take 4))),.mk ⟨7,zsN,40,ndC x⟩ (some 8),.mk ⟨8,zsN,40,zsN.map cst⟩ none,.st 6 ⟨7,zsN,40,ndC x⟩] (by kernel_rfl) (by kernel_rfl) (.inr (by kernel_rfl)) ⟨⟨rfl,zAE rfl⟩,rfl,⟨rfl,zEZ hx rfl rfl zAa⟩,rfl,⟨rfl,zAf rfl zAb rfl⟩,rfl,⟨rfl,zAE rfl⟩,rfl,⟨rfl,zEZ hy rfl rfl zAa⟩,rfl,⟨rfl,zAf rfl zAb rfl⟩,rfl,⟨rfl,rfl,rfl,zAp,by kernel_rfl,rfl⟩,rfl,⟨rfl,rfl,rfl,zAp,by kernel_rfl,rfl⟩,rfl,⟨⟨_,_,_,_,_,rfl,rfl,rfl,zAb,rfl⟩,rfl,rfl,rfl,rfl,rfl⟩,trivial⟩ ?_)|apply en_n|apply zAH|apply zAC|apply zAF|apply w0|(refine zDF (by kernel_rfl) ?_;apply zA0;exact rfl;exact rfl;exact rfl;(with_reducible exact zAb);exact rfl;exact rfl;exact rfl;exact rfl)|(apply k1u (hd:=rfl);exact rfl;exact rfl)|(apply zBW;exact rfl;exact rfl;first|assumption|omega)|(refine zA6 [0,1] [] rfl rfl zDR (hhA) rfl ?_ rfl (by decide) rfl rfl rfl rfl;(repeat (refine zAI rfl ?_));exact zAM)|(refine zA6 [0,1] [] rfl rfl zDR (hhB) rfl ?_ rfl (by decide) rfl rfl rfl rfl;(repeat (refine zAI rfl ?_));exact zAM)|(apply zRb;exact hxy;exact rfl;exact rfl)|apply ay (hd:=rfl)|exact zAE rfl|exact zAD rfl|exact zAo rfl rfl|exact zAR rfl|(apply zAS;exact rfl;(with_reducible exact fn_0))|(apply zAV;exact rfl;(with_reducible exact zAk);exact rfl;exact rfl)|(apply zC1;exact rfl;(with_reducible exact zAb);exact rfl;exact rfl;exact rfl)|(refine w0' ?_)|(apply zAQ;exact rfl)|(apply zAU;exact rfl)|apply zAJ|apply zAN|apply en_r|apply eb_r
                  exact zAh (zAL (zAA rfl zAW) (zAB rfl rfl (zAB rfl rfl zAK)) rfl rfl)
                · rename_i hxy
                  have hxy : x = y:=Classical.byContradiction hxy
                  repeat' first | (refine zB1 (id:=2) [.y (.d (zAc a)),.y (.rptr x.av.flat),.y (.d (.agg (x.av.flat.take 4))),.y (.d (zAc b)),.y (.rptr y.av.flat),.y (.d (.agg (y.av.flat.take 4))),.mk ⟨7,zsN,40,ndC x⟩ (some 8),.mk ⟨8,zsN,40,zsN.map cst⟩ none,.st 6 ⟨7,zsN,40,ndC x⟩] (by kernel_rfl) (by kernel_rfl) (.inr (by kernel_rfl)) ⟨⟨rfl,zAE rfl⟩,rfl,⟨rfl,zEZ hx rfl rfl zAa⟩,rfl,⟨rfl,zAf rfl zAb rfl⟩,rfl,⟨rfl,zAE rfl⟩,rfl,⟨rfl,zEZ hy rfl rfl zAa⟩,rfl,⟨rfl,zAf rfl zAb rfl⟩,rfl,⟨rfl,rfl,rfl,zAp,by kernel_rfl,rfl⟩,rfl,⟨rfl,rfl,rfl,zAp,by kernel_rfl,rfl⟩,rfl,⟨⟨_,_,_,_,_,rfl,rfl,rfl,zAb,rfl⟩,rfl,rfl,rfl,rfl,rfl⟩,trivial⟩ ?_)|apply en_n|apply zAH|apply zAC|apply zAF|apply w0|(refine zDF (by kernel_rfl) ?_;apply zA0;exact rfl;exact rfl;exact rfl;(with_reducible exact zAb);exact rfl;exact rfl;exact rfl;exact rfl)|(apply k1u (hd:=rfl);exact rfl;exact rfl)|(apply zBW;exact rfl;exact rfl;first|assumption|omega)|(refine zA6 [0,1] [] rfl rfl zDR (hhA) rfl ?_ rfl (by decide) rfl rfl rfl rfl;(repeat (refine zAI rfl ?_));exact zAM)|(refine zA6 [0,1] [] rfl rfl zDR (hhB) rfl ?_ rfl (by decide) rfl rfl rfl rfl;(repeat (refine zAI rfl ?_));exact zAM)|(apply zRc;exact hxy;exact rfl;exact rfl)|(apply zAX (hb:=zCj) (hc:=zCm a 0 hla);exact zAZ rfl (zAZ rfl zAG))|(apply zAX (hb:=zCj) (hc:=zCm b 0 hlb);exact zAZ rfl (zAZ rfl zAG))|apply ay (hd:=rfl)|exact zAE rfl|exact zAD rfl|(apply zAr;exact rfl;(with_reducible exact zCU))|exact zAo rfl rfl|exact zAR rfl|(apply zAS;exact rfl;(with_reducible exact fn_0))|(apply zAV;exact rfl;(with_reducible exact zAk);exact rfl;exact rfl)|(apply zC1;exact rfl;(with_reducible exact zAb);exact rfl;exact rfl;exact rfl)|(refine w0' ?_)|(apply zAU;exact rfl)|apply zAJ|apply zAT|apply eb_n
                  refine zAs (α:=Nat × Sto) (fun p=>p.1 ≤ (zBn a 0).length ∧ zBc (kidS n a b) (0,L) ((List.range (zBn a 0).length).take p.1) = some (0,p.2) ∧ StoB p.2) (fun p=>[(0,.ptr 0 0),(1,.d (zAc a)),(2,.d (zAc b)),(9,.d (zBv (zBn a 0))),(10,.d (zBv (zBn b 0))),(87,.d (i64 ((zBn a 0).length : Int))),(88,.d (i64 (p.1 : Int)))])
                    (fun p=>[.bx (fx 0) none [.d (i64 nx),.mp 1],.map (fx 1) (mSto p.2)]) (fun p=>(zBn a 0).length - p.1) (0,L) ⟨Nat.zero_le _,by simp [zBc],hL⟩
                    (zAL (zAA rfl (zAA rfl (zAA rfl (zAA rfl (zAA rfl (Le_d rfl rfl (zAA rfl zAW))))))) (zAB rfl rfl (zAB rfl rfl zAK)) rfl rfl) ?_
                  have hkl:=kids_len a 0
                  rintro ⟨i,S1⟩ ⟨hi,hf,hS1⟩
                  dsimp only at hi hf hS1 ⊢
                  rcases Nat.lt_or_ge i (zBn a 0).length with hlt | hge
                  · have hix : (List.range (zBn a 0).length)[i]? = some i:=List.getElem?_range hlt
                    obtain ⟨c,hc⟩:=zEr h (i + 1)
                    have hst:=zEs hix hf
                    rw [hc] at hst
                    obtain ⟨k,l,u,v,hka,hlb2,hu,hv,hs⟩:=zVV hst.symm
                    have hS2:=zJ2 _ _ _ _ _ hS1 hs
                    obtain ⟨c1,S2⟩:=c
                    have hih:=ih S1 u v c1 S2 hS1 hs
                    by_cases hc1 : c1 = 0
                    · subst hc1
                      repeat' first | apply en_n|apply zAH|apply zAC|apply zAF|apply w0|(apply zBK;exact rfl;exact rfl;first|assumption|omega)|(apply zBm;exact rfl;exact rfl;first|assumption|omega)|(apply zRi;exact hu;exact rfl;exact rfl;exact rfl;(with_reducible exact zAa))|(apply zRi;exact hv;exact rfl;exact rfl;exact rfl;(with_reducible exact zAa))|(apply zAX (hb:=zGH) (hc:=zGL a k hla);exact zAZ rfl (zAZ rfl zAG))|(apply zAX (hb:=zGH) (hc:=zGL b l hlb);exact zAZ rfl (zAZ rfl zAG))|(refine zDF (by kernel_rfl) ?_;refine zAy [0,1] zKO (hih) ?_ rfl rfl (by decide) rfl rfl rfl rfl rfl rfl ?_;(repeat (refine zAI rfl ?_));exact zAM)|(apply aJ (hd:=rfl);(first|exact zAn rfl|exact Co_bb rfl rfl rfl|exact Co_nn rfl);exact rfl;(with_reducible exact zBD);assumption;omega;exact fun _=>rfl)|apply ay (hd:=rfl)|exact zAE rfl|exact zAD rfl|(apply zAi;exact rfl;(with_reducible exact zAz))|(apply zBG;exact rfl;exact rfl)|exact zAR rfl|(apply zAQ;exact rfl)|(apply zAU;exact rfl)|apply zAJ|apply zAT|refine zBQ (by kernel_rfl) (by kernel_rfl) ?_|apply eb_n
                      · omega
                      exact ⟨(i + 1,S2),⟨hlt,hc,hS2⟩,by show (zBn a 0).length - (i + 1) < _;omega,zAL (zAA rfl (zAA rfl (zAA rfl (zAA rfl (zAA rfl (zAA rfl (zAA rfl zAW))))))) (zAB rfl rfl (zAB rfl rfl zAK)) rfl rfl⟩
                    · have hr:=zQq (fun j=>by unfold kidS;simp only [ne_eq,hc1,not_false_eq_true,if_true]) hc h
                      injection hr with h1 h2;subst h1;subst h2
                      repeat' first | apply en_n|apply zAH|apply zAC|apply zAF|apply w0|(apply zBK;exact rfl;exact rfl;first|assumption|omega)|(apply zCT;exact rfl;exact rfl;first|assumption|omega)|(apply zRi;exact hu;exact rfl;exact rfl;exact rfl;(with_reducible exact zAa))|(apply zRi;exact hv;exact rfl;exact rfl;exact rfl;(with_reducible exact zAa))|(apply zAX (hb:=zGH) (hc:=zGL a k hla);exact zAZ rfl (zAZ rfl zAG))|(apply zAX (hb:=zGH) (hc:=zGL b l hlb);exact zAZ rfl (zAZ rfl zAG))|(refine zDF (by kernel_rfl) ?_;refine zAy [0,1] zKO (hih) ?_ rfl rfl (by decide) rfl rfl rfl rfl rfl rfl ?_;(repeat (refine zAI rfl ?_));exact zAM)|(apply aJ (hd:=rfl);(first|exact zAn rfl|exact Co_bb rfl rfl rfl|exact Co_nn rfl);exact rfl;(with_reducible exact zBD);assumption;omega;exact fun _=>rfl)|apply ay (hd:=rfl)|exact zAE rfl|exact zAD rfl|(apply zAi;exact rfl;(with_reducible exact zAz))|exact zAR rfl|(apply zAQ;exact rfl)|apply zAJ|apply zAT|apply zAN|refine zBQ (by kernel_rfl) (by kernel_rfl) ?_|apply en_r|apply eb_r
                      exact zAh (zAL (zAA rfl zAW) (zAB rfl rfl (zAB rfl rfl zAK)) rfl rfl)
                  · have e2 : (0,S1) = (e,L'):=by rw [List.take_of_length_le (by rw [List.length_range];exact hge),h] at hf;injection hf with hf;exact hf.symm
                    injection e2 with e2 e3;subst e2;subst e3
                    repeat' first | apply en_n|apply zAH|apply zAC|apply zAF|apply w0|(apply zCJ;exact rfl;exact rfl;first|assumption|omega)|apply ay (hd:=rfl)|exact zAD rfl|(apply zAU;exact rfl)|apply zAN|apply zAu|apply en_e|apply eb_e
                    exact zAh (zAL (zAA rfl zAW) (zAB rfl rfl (zAB rfl rfl zAK)) rfl rfl)
      · cases h
    · cases h
end Go.Proofs.YtblomnkamngnbaaGreatDoor
namespace Go.Proofs.YtblomnkamngnbaaGreatDoor
def Ev (P : Nat → Prop) : Prop:=∃ n,∀ m,n ≤ m → P m
theorem Ev.and {P Q : Nat → Prop} (hp : Ev P) (hq : Ev Q) : Ev fun m=>P m ∧ Q m:=by
  obtain ⟨a,ha⟩:=hp;obtain ⟨b,hb⟩:=hq
  exact ⟨max a b,fun m hm=>⟨ha m (by omega),hb m (by omega)⟩⟩
theorem Ev.mono {P Q : Nat → Prop} (hp : Ev P) (h : ∀ m,P m → Q m) : Ev Q:=by
  obtain ⟨a,ha⟩:=hp;exact ⟨a,fun m hm=>h m (ha m hm)⟩
theorem Ev.succ {P Q : Nat → Prop} (hp : Ev P) (h : ∀ m,P m → Q (m + 1)) : Ev Q:=by
  obtain ⟨a,ha⟩:=hp
  refine ⟨a + 1,fun m hm=>?_⟩
  obtain ⟨k,rfl⟩ : ∃ k,m = k + 1:=⟨m - 1,by omega⟩
  exact h k (ha k (by omega))
theorem Ev.all {P : Nat → Prop} (h : ∀ m,P m) : Ev P:=⟨0,fun m _=>h m⟩
theorem Ev.get {P : Nat → Prop} (h : Ev P) : ∃ n,P n:=by obtain ⟨a,ha⟩:=h;exact ⟨a,ha a (Nat.le_refl _)⟩
theorem zJ8 {β : Type} {t : β} {x : Int} : ∀ {L : List (Int × β)},zAv L x = none → putA L x t = L ++ [(x,t)]
  | [],_=>rfl
  | (a,d) :: r,h=>by
    unfold zAv at h;unfold putA
    split at h
    · cases h
    · rename_i hk;rw [if_neg hk,zJ8 h];rfl
theorem zBo {β : Type} {t : β} {x : Int} : ∀ (L : List (Int × β)) (k : Int),zAv (putA L x t) k = if x = k then some t else zAv L k
  | [],k=>by simp only [putA,zAv]
  | (a,d) :: r,k=>by
    unfold putA
    by_cases h : a = x
    · rw [if_pos h];unfold zAv
      by_cases h2 : a = k
      · rw [if_pos h2,if_pos (h ▸ h2)]
      · rw [if_neg h2,if_neg (fun e=>h2 (h.trans e)),if_neg h2]
    · rw [if_neg h];unfold zAv
      by_cases h2 : a = k
      · rw [if_pos h2,if_neg (fun e=>h (h2.trans e.symm)),if_pos h2]
      · rw [if_neg h2,zBo r k]
        by_cases h3 : x = k
        · rw [if_pos h3,if_pos h3]
        · rw [if_neg h3,if_neg h3,if_neg h2]
theorem zGG {β : Type} : ∀ {L : List (Int × β)} {x : Int},zAv L x = none → ∀ p ∈ L,p.1 ≠ x
  | [],_,_,p,hp=>by cases hp
  | (a,d) :: r,x,h,p,hp=>by
    unfold zAv at h
    split at h
    · cases h
    · rename_i hk
      rcases List.mem_cons.1 hp with rfl | hp
      · exact hk
      · exact zGG h p hp
structure Gd (V : List Int) (t : List Nd) : Prop where
  ty : Ty t
  len : t.length ≤ 4000
  vs : ∀ x,Vin x t → x ∈ V
def Sat (σ : Int → List Nd) (L : Sto) : Prop:=∀ k t,zAv L k = some t → σ k = sub σ t
def free (V : List Int) (L : Sto) : Nat:=(V.filter fun k=>(zAv L k).isNone).length
def Rng (x : Int) : Prop:=0 ≤ x ∧ x ≤ 1048576
structure Inv (V : List Int) (L : Sto) (ρ : Int → List Nd) : Prop where
  gd : ∀ k t,zAv L k = some t → Gd V t
  eq : ∀ k t,zAv L k = some t → ρ k = sub ρ t
  dn : ∀ k t,zAv L k = some t → (∃ j,t = [vN j] ∧ j < k) ∨ ∃ h r,t = h :: r ∧ h.kind ≠ 31
  fr : ∀ k,zAv L k = none → ρ k = [vN k]
  ky : ∀ p ∈ L,p.1 ∈ V ∧ Rng p.1
  nd : (L.map Prod.fst).Nodup
  cnt : L.length + free V L ≤ V.length
theorem Ty.rng {t : List Nd} (h : Ty t) {x : Int} (hx : Vin x t) : Rng x:=by
  obtain ⟨n,hn,hk,rfl⟩:=hx;exact (h.lf n hn hk).2
def rk (ρ : Int → List Nd) (k : Int) : Nat:=(ρ k).length * 2000000 + k.toNat
section
variable {V : List Int} {L : Sto} {ρ : Int → List Nd}
theorem Inv.rk (h : Inv V L ρ) {k y : Int} {t : List Nd} (hk : zAv L k = some t) (hy : Vin y t) : rk ρ y < rk ρ k:=by
  have he:=h.eq k t hk
  have hr:=(h.gd k t hk).ty.rng hy
  unfold Rng at hr
  unfold Go.Proofs.YtblomnkamngnbaaGreatDoor.rk
  rcases h.dn k t hk with ⟨j,rfl,hj⟩ | ⟨n,r,rfl,hn⟩
  · rw [zC5] at hy;subst hy
    rw [zCd] at he;rw [he];omega
  · rw [zDW hn] at he
    rcases zBL.1 hy with ⟨h1,_⟩ | hy
    · exact absurd h1 hn
    · have:=zPj (σ:=ρ) hy
      rw [he,List.length_cons];omega
theorem Inv.ind (h : Inv V L ρ) {P : Int → Prop} (hf : ∀ k,zAv L k = none → P k) (hb : ∀ k t,zAv L k = some t → (∀ y,Vin y t → P y) → P k) : ∀ k,P k:=by
  have : ∀ n k,Go.Proofs.YtblomnkamngnbaaGreatDoor.rk ρ k < n → P k:=by
    intro n
    induction n with
    | zero=>intro k hk;omega
    | succ n ih =>
      intro k hk
      cases hl : zAv L k with
      | none=>exact hf k hl
      | some t=>exact hb k t hl fun y hy=>ih y (by have:=h.rk hl hy;omega)
  exact fun k=>this _ k (Nat.lt_succ_self _)
theorem Inv.sat (h : Inv V L ρ) : Sat ρ L:=h.eq
theorem Inv.absorb (h : Inv V L ρ) {σ : Int → List Nd} (hs : Sat σ L) : ∀ k,sub σ (ρ k) = σ k:=by
  refine h.ind (fun k hk=>by rw [h.fr k hk,zCd]) (fun k t hk ih=>?_)
  rw [h.eq k t hk,zHI,hs k t hk]
  exact zGc ih
theorem Inv.absorbL (h : Inv V L ρ) {σ : Int → List Nd} (hs : Sat σ L) (t : List Nd) : sub σ (sub ρ t) = sub σ t:=by
  rw [zHI];exact zGc fun x _=>h.absorb hs x
theorem Inv.whl (h : Inv V L ρ) : ∀ k,Whl (ρ k):=by
  refine h.ind (fun k hk=>by rw [h.fr k hk];rfl) (fun k t hk ih=>?_)
  rw [h.eq k t hk];exact zKh (h.gd k t hk).ty.lf ih (h.gd k t hk).ty.whl
theorem Inv.ty (h : Inv V L ρ) : ∀ k,Rng k → Ty (ρ k):=by
  refine h.ind (fun k hk hr=>by rw [h.fr k hk];exact zI8 hr) (fun k t hk ih _=>?_)
  rw [h.eq k t hk];exact (h.gd k t hk).ty.sub fun x hx=>ih x hx ((h.gd k t hk).ty.rng hx)
theorem Inv.tyL (h : Inv V L ρ) {t : List Nd} (ht : Ty t) : Ty (sub ρ t):=ht.sub fun x hx=>h.ty x (ht.rng hx)
theorem Inv.unb (h : Inv V L ρ) : ∀ k x,Vin x (ρ k) → zAv L x = none:=by
  refine h.ind (fun k hk x hx=>by rw [h.fr k hk,zC5] at hx;subst hx;exact hk) (fun k t hk ih x hx=>?_)
  rw [h.eq k t hk,zGW] at hx
  obtain ⟨y,hy,hx⟩:=hx
  exact ih y hy x hx
theorem Inv.inV (h : Inv V L ρ) : ∀ k,k ∈ V → ∀ x,Vin x (ρ k) → x ∈ V:=by
  refine h.ind (fun k hk hv x hx=>by rw [h.fr k hk,zC5] at hx;subst hx;exact hv) (fun k t hk ih hv x hx=>?_)
  rw [h.eq k t hk,zGW] at hx
  obtain ⟨y,hy,hx⟩:=hx
  exact ih y hy ((h.gd k t hk).vs y hy) x hx
theorem Inv.nil (V : List Int) : Inv V [] fun k=>[vN k] where
  gd:=fun _ _ h=>by cases h
  eq:=fun _ _ h=>by cases h
  dn:=fun _ _ h=>by cases h
  fr:=fun _ _=>rfl
  ky:=fun _ h=>by cases h
  nd:=List.nodup_nil
  cnt:=by rw [free,List.length_nil,Nat.zero_add];exact List.length_filter_le _ _
def upd (x : Int) (u : List Nd) (k : Int) : List Nd:=if k = x then u else [vN k]
theorem zQ0 {V : List Int} {p q : Int → Bool} (hpq : ∀ k,q k = true → p k = true) {x : Int} (hx : x ∈ V) (hp : p x = true) (hq : q x = false) : (V.filter q).length < (V.filter p).length:=by
  have hle : ∀ W : List Int,(W.filter q).length ≤ (W.filter p).length:=by
    intro W
    induction W with
    | nil=>simp
    | cons a W ih =>
      rw [List.filter_cons,List.filter_cons]
      by_cases h1 : q a = true
      · rw [if_pos h1,if_pos (hpq a h1)];simp only [List.length_cons];omega
      · rw [if_neg h1]
        by_cases h2 : p a = true
        · rw [if_pos h2];simp only [List.length_cons];omega
        · rw [if_neg h2];exact ih
  induction V with
  | nil=>cases hx
  | cons a W ih =>
    rw [List.filter_cons,List.filter_cons]
    rcases List.mem_cons.1 hx with rfl | hx
    · rw [if_pos hp,if_neg (by rw [hq];exact Bool.false_ne_true),List.length_cons];have:=hle W;omega
    · have:=ih hx
      by_cases h1 : q a = true
      · rw [if_pos h1,if_pos (hpq a h1)];simp only [List.length_cons];omega
      · rw [if_neg h1]
        by_cases h2 : p a = true
        · rw [if_pos h2];simp only [List.length_cons];omega
        · rw [if_neg h2];exact this
theorem zKY {x : Int} {t : List Nd} (hx : zAv L x = none) (hV : x ∈ V) : free V (putA L x t) < free V L:=by
  refine zQ0 (fun k hk=>?_) hV (by rw [hx];rfl) (by rw [zBo,if_pos rfl];rfl)
  rw [zBo] at hk
  split at hk
  · cases hk
  · exact hk
theorem Inv.put (h : Inv V L ρ) {x : Int} {t : List Nd} (hx : zAv L x = none) (hV : x ∈ V) (hr : Rng x) (ht : Gd V t) (hd : (∃ j,t = [vN j] ∧ j < x) ∨ ∃ n r,t = n :: r ∧ n.kind ≠ 31) (ho : ¬ Vin x (sub ρ t)) :
    Inv V (putA L x t) (fun k=>sub (upd x (sub ρ t)) (ρ k)) where
  gd:=fun k u hk=>by
    rw [zBo] at hk
    split at hk
    · injection hk with hk;subst hk;exact ht
    · exact h.gd k u hk
  eq:=fun k u hk=>by
    rw [zBo] at hk
    split at hk
    · rename_i e
      injection hk with hk;subst hk;subst e
      show sub _ (ρ x) = _
      rw [h.fr x hx,zCd,upd,if_pos rfl, ← zHI (upd x (sub ρ t)) ρ]
      refine (zTX (h.tyL ht.ty).lf fun y hy=>?_).symm
      have hne : y ≠ x:=fun e=>ho (e ▸ hy)
      rw [upd,if_neg hne]
    · show sub _ (ρ k) = _
      rw [h.eq k u hk,zHI]
  dn:=fun k u hk=>by
    rw [zBo] at hk
    split at hk
    · rename_i e
      injection hk with hk;subst hk;subst e;exact hd
    · exact h.dn k u hk
  fr:=fun k hk=>by
    rw [zBo] at hk
    split at hk
    · cases hk
    · rename_i e
      show sub _ (ρ k) = _
      rw [h.fr k hk,zCd,upd,if_neg (fun c=>e c.symm)]
  ky:=fun p hp=>by
    rcases zJ7 hp with hp | rfl
    · exact h.ky p hp
    · exact ⟨hV,hr⟩
  nd:=by
    rw [zJ8 hx,List.map_append,List.nodup_append]
    refine ⟨h.nd,by simp,fun a ha b hb e=>?_⟩
    simp only [List.map_cons,List.map_nil,List.mem_singleton] at hb
    obtain ⟨p,hp,rfl⟩:=List.mem_map.1 ha
    exact zGG hx p hp (e.trans hb)
  cnt:=by
    have:=zKY (t:=t) hx hV
    rw [zJ8 hx] at this ⊢
    rw [List.length_append,List.length_singleton];have:=h.cnt;omega
theorem zRj {σ : Int → List Nd} {x : Int} {t : List Nd} (hx : zAv L x = none) : Sat σ (putA L x t) ↔ Sat σ L ∧ σ x = sub σ t:=by
  constructor
  · intro hs
    refine ⟨fun k u hk=>hs k u ?_,hs x t (by rw [zBo,if_pos rfl])⟩
    rw [zBo,if_neg (fun e=>?_),hk]
    subst e;rw [hx] at hk;cases hk
  · rintro ⟨h1,h2⟩ k u hk
    rw [zBo] at hk
    split at hk
    · rename_i e;injection hk with hk;subst hk;subst e;exact h2
    · exact h1 k u hk
theorem zUA (x : Int) : varN x = [vN x]:=rfl
structure HP (V : List Int) (L : Sto) (a b : List Nd) : Prop where
  gd : Gd V b
  is : (∃ x,b = [vN x] ∧ zAv L x = none ∧ x ∈ V ∧ Rng x) ∨ ∃ n r,b = n :: r ∧ n.kind ≠ 31
  eq : ∀ σ,Sat σ L → sub σ b = sub σ a
theorem zGx (m : Nat) (L : Sto) (x : Int) : zD2 (m + 1) L [vN x] = match zAv L x with | some u=>zD2 m L u | none=>some [vN x]:=rfl
theorem zIf (m : Nat) (L : Sto) {n : Nd} (r : List Nd) (hn : n.kind ≠ 31) : zD2 (m + 1) L (n :: r) = some (n :: r):=by
  simp only [zD2,List.getElem?_cons_zero,if_neg hn]
theorem Inv.head_var (h : Inv V L ρ) : ∀ x,Rng x → x ∈ V → ∃ b,Ev (fun m=>zD2 m L [vN x] = some b) ∧ HP V L [vN x] b:=by
  refine h.ind (fun x hx hr hV=>?_) (fun x t hx ih hr hV=>?_)
  · refine ⟨[vN x],Ev.succ (Ev.all fun _=>trivial) fun m _=>by rw [zGx,hx],⟨zI8 hr,by simp,fun y hy=>by rw [zC5] at hy;subst hy;exact hV⟩,.inl ⟨x,rfl,hx,hV,hr⟩,fun σ _=>rfl⟩
  · have hg:=h.gd x t hx
    rcases h.dn x t hx with ⟨j,rfl,hj⟩ | ⟨n,r,rfl,hn⟩
    · obtain ⟨b,hb,h1,h2,h3⟩:=ih j (zC5.2 rfl) (hg.ty.rng (zC5.2 rfl)) (hg.vs j (zC5.2 rfl))
      refine ⟨b,hb.succ fun m hm=>by rw [zGx,hx];exact hm,h1,h2,fun σ hs=>?_⟩
      rw [h3 σ hs,zCd,zCd,hs x _ hx,zCd]
    · refine ⟨n :: r,((Ev.all (P:=fun _=>True) fun _=>trivial).succ (Q:=fun m=>zD2 m L (n :: r) = some (n :: r)) fun m _=>zIf m L r hn).succ fun m hm=>by rw [zGx,hx];exact hm,hg,.inr ⟨n,r,rfl,hn⟩,fun σ hs=>?_⟩
      rw [zCd,hs x _ hx]
theorem Inv.head (h : Inv V L ρ) {a : List Nd} (ha : Gd V a) : ∃ b,Ev (fun m=>zD2 m L a = some b) ∧ HP V L a b:=by
  rcases ha.ty.cases with ⟨x,rfl,hr⟩ | ⟨n,KK,rfl,hn,_⟩
  · exact h.head_var x hr (ha.vs x (zC5.2 rfl))
  · exact ⟨_,(Ev.all (P:=fun _=>True) fun _=>trivial).succ fun m _=>zIf m L _ hn,ha,.inr ⟨n,_,rfl,hn⟩,fun σ _=>rfl⟩
def resS (n : Nat) (L : Sto) (x : Nd) : Option (List Nd):=if x.kind = 31 then (match zAv L x.num with | some u=>resF n L u | none=>some [x]) else some [x]
theorem zIM (n : Nat) (L : Sto) (t : List Nd) : resF (n + 1) L t = catO (resS n L) t:=rfl
theorem Inv.res_list (h : Inv V L ρ) : ∀ t : List Nd,Lf t → (∀ y u,Vin y t → zAv L y = some u → Ev fun m=>resF m L u = some (ρ y)) → Ev fun m=>catO (resS m L) t = some (sub ρ t)
  | [],_,_=>Ev.all fun _=>rfl
  | x :: r,hl,hy=>by
    have ih:=Inv.res_list h r (fun n hn=>hl n (List.mem_cons_of_mem _ hn)) (fun y u hv hu=>hy y u (zBL.2 (.inr hv)) hu)
    have h1 : Ev fun m=>resS m L x = some (sub1 ρ x):=by
      unfold resS sub1
      by_cases hk : x.kind = 31
      · simp only [if_pos hk]
        cases hq : zAv L x.num with
        | none =>
          have e:=(hl x List.mem_cons_self hk).1
          exact Ev.all fun _=>by simp only [h.fr x.num hq];rw [← e]
        | some u=>exact hy x.num u (zBL.2 (.inl ⟨hk,rfl⟩)) hq
      · exact Ev.all fun _=>by rw [if_neg hk,if_neg hk]
    refine (h1.and ih).mono fun m ⟨e1,e2⟩=>?_
    simp only [catO,e1,e2,zCA]
theorem Inv.res_var (h : Inv V L ρ) : ∀ k u,zAv L k = some u → Ev fun m=>resF m L u = some (ρ k):=by
  refine h.ind (fun k hk u hu=>by rw [hk] at hu;cases hu) (fun k t hk ih u hu=>?_)
  rw [hk] at hu;injection hu with hu;subst hu
  refine (h.res_list t (h.gd k t hk).ty.lf (fun y u hy hu=>ih y hy u hu)).succ fun m hm=>?_
  rw [zIM,hm,h.eq k t hk]
theorem Inv.res (h : Inv V L ρ) {t : List Nd} (ht : Ty t) : Ev fun m=>resF m L t = some (sub ρ t) :=
  (h.res_list t ht.lf fun y u _ hu=>h.res_var y u hu).succ fun m hm=>by rw [zIM,hm]
def Msz (ρ : Int → List Nd) (S : Seen) : Prop:=∀ z,0 < (zAv S z).getD 0 → (zAv S z).getD 0 = min ((ρ z).length : Int) 4001
theorem Inv.size_list (h : Inv V L ρ) : ∀ t : List Nd,Lf t → (∀ y u,Vin y t → zAv L y = some u → ∀ S,Msz ρ S → ∃ S',(Ev fun m=>zGE m L u S = some (min ((ρ y).length : Int) 4001,S')) ∧ Msz ρ S') →
    ∀ (acc : Int) (S : Seen),0 ≤ acc → acc ≤ 4001 → Msz ρ S → ∃ S',(Ev fun m=>zBc (szS m L) (acc,S) t = some (min (acc + ((sub ρ t).length : Int)) 4001,S')) ∧ Msz ρ S'
  | [],_,_,acc,S,h0,h1,hS=>⟨S,Ev.all fun _=>by rw [zJx];simp only [zBc,List.length_nil];congr 2;omega,hS⟩
  | x :: r,hl,hy,acc,S,h0,h1,hS=>by
    have ih:=Inv.size_list h r (fun n hn=>hl n (List.mem_cons_of_mem _ hn)) (fun y u hv hu=>hy y u (zBL.2 (.inr hv)) hu)
    obtain ⟨S1,e1,hS1⟩ : ∃ S1,(Ev fun m=>szS m L (acc,S) x = some (min (acc + ((sub1 ρ x).length : Int)) 4001,S1)) ∧ Msz ρ S1:=by
      unfold szS sub1
      by_cases hk : x.kind = 31
      · simp only [if_pos hk]
        cases hq : zAv L x.num with
        | none=>exact ⟨S,Ev.all fun _=>by rw [h.fr x.num hq];rfl,hS⟩
        | some u =>
          by_cases hz : (zAv S x.num).getD 0 > 0
          · refine ⟨S,Ev.all fun _=>?_,hS⟩
            simp only [if_pos hz];rw [hS x.num hz];congr 2;omega
          · obtain ⟨S2,e2,hS2⟩:=hy x.num u (zBL.2 (.inl ⟨hk,rfl⟩)) hq S hS
            refine ⟨putA S2 x.num (min ((ρ x.num).length : Int) 4001),e2.mono fun m hm=>?_,fun z hz=>?_⟩
            · simp only [if_neg hz,hm];congr 2;omega
            · rw [zBo] at hz ⊢
              split
              · rename_i e;subst e;rfl
              · rename_i e;rw [if_neg e] at hz;exact hS2 z hz
      · simp only [if_neg hk,List.length_singleton];exact ⟨S,Ev.all fun _=>rfl,hS⟩
    obtain ⟨S2,e2,hS2⟩:=ih (min (acc + ((sub1 ρ x).length : Int)) 4001) S1 (by omega) (by omega) hS1
    refine ⟨S2,(e1.and e2).mono fun m ⟨a,b⟩=>?_,hS2⟩
    simp only [zBc,a,b,zCA,List.length_append]
    congr 2;omega
theorem Inv.size_var (h : Inv V L ρ) : ∀ k u,zAv L k = some u → ∀ S,Msz ρ S → ∃ S',(Ev fun m=>zGE m L u S = some (min ((ρ k).length : Int) 4001,S')) ∧ Msz ρ S':=by
  refine h.ind (fun k hk u hu=>by rw [hk] at hu;cases hu) (fun k t hk ih u hu S hS=>?_)
  rw [hk] at hu;injection hu with hu;subst hu
  obtain ⟨S',e,hS'⟩:=h.size_list t (h.gd k t hk).ty.lf (fun y u hy hu=>ih y hy u hu) 0 S (by omega) (by omega) hS
  refine ⟨S',e.succ fun m hm=>?_,hS'⟩
  rw [zEA,hm,h.eq k t hk];congr 2;omega
theorem Inv.size (h : Inv V L ρ) {t : List Nd} (ht : Ty t) : ∃ S',Ev fun m=>zGE m L t [] = some (min ((sub ρ t).length : Int) 4001,S'):=by
  obtain ⟨S',e,_⟩:=h.size_list t ht.lf (fun y u _ hu=>h.size_var y u hu) 0 [] (by omega) (by omega) (fun z hz=>by simp [zAv] at hz)
  refine ⟨S',e.succ fun m hm=>?_⟩
  rw [zEA,hm];congr 2;omega
def Vis (S : Seen) (z : Int) : Prop:=0 < (zAv S z).getD 0
structure Lk (ρ : Int → List Nd) (L : Sto) (x : Int) (t : List Nd) (S : Seen) (r : Bool × Seen) : Prop where
  yes : r.1 = true → Vin x (sub ρ t)
  not : r.1 = false → ¬ Vis r.2 x
  keep : r.1 = false → ∀ z,Vis S z → Vis r.2 z
  has : r.1 = false → ∀ z,Vin z t → Vis r.2 z
  shut : r.1 = false → ∀ z,Vis r.2 z → Vis S z ∨ ∀ u y,zAv L z = some u → Vin y u → Vis r.2 y
theorem zKs {S : Seen} {z : Int} {v : Int} (hv : 0 < v) {w : Int} : Vis (putA S z v) w ↔ w = z ∨ Vis S w:=by
  unfold Vis
  rw [zBo]
  by_cases h : z = w
  · subst h;simp [hv]
  · rw [if_neg h];simp [Ne.symm h]
theorem Inv.in_list (h : Inv V L ρ) {x : Int} (hx : zAv L x = none) : ∀ t : List Nd,(∀ y,Vin y t → ∀ S,(∀ z,0 ≤ (zAv S z).getD 0) → ¬ Vis S x → ∃ r,(Ev fun m=>inF m L x ((zAv L y).getD []) S = some r) ∧ (∀ z,0 ≤ (zAv r.2 z).getD 0) ∧ Lk ρ L x ((zAv L y).getD []) S r) →
    ∀ S : Seen,(∀ z,0 ≤ (zAv S z).getD 0) → ¬ Vis S x → ∃ r,(Ev fun m=>zBc (inS m L x) (false,S) t = some r) ∧ (∀ z,0 ≤ (zAv r.2 z).getD 0) ∧ Lk ρ L x t S r
  | [],_,S,hp,hS=>⟨(false,S),Ev.all fun _=>rfl,hp,⟨(fun c=>by cases c),fun _=>hS,fun _ _ c=>c,fun _ _ c=>absurd c zEe,fun _ _ c=>.inl c⟩⟩
  | n :: t,hy,S,hp,hS=>by
    have ih:=Inv.in_list h hx t (fun y hv=>hy y (zBL.2 (.inr hv)))
    have here : n.kind ≠ 31 ∨ Vis S n.num → ∃ r,(Ev fun m=>zBc (inS m L x) (false,S) (n :: t) = some r) ∧ (∀ z,0 ≤ (zAv r.2 z).getD 0) ∧ Lk ρ L x (n :: t) S r:=fun hc=>by
      obtain ⟨r,e,hr,k⟩:=ih S hp hS
      have hc' : n.kind ≠ 31 ∨ (zAv S n.num).getD 0 > 0:=hc
      refine ⟨r,e.mono fun m hm=>?_,hr,⟨fun c=>?_,k.not,k.keep,fun c z hz=>?_,k.shut⟩⟩
      · simp only [zBc,inS]
        rw [if_neg Bool.false_ne_true,if_pos hc'];exact hm
      · rw [zCA,zEF];exact .inr (k.yes c)
      · rcases zBL.1 hz with ⟨h1,rfl⟩ | hz
        · exact k.keep c _ (hc.resolve_left fun c=>c h1)
        · exact k.has c z hz
    by_cases hc : n.kind ≠ 31 ∨ Vis S n.num
    · exact here hc
    · have hc' : ¬ (n.kind ≠ 31 ∨ (zAv S n.num).getD 0 > 0):=hc
      have hk : n.kind = 31:=Classical.byContradiction fun c=>hc (.inl c)
      have hv : 0 < (zAv S n.num).getD 0 + 1:=by have:=hp n.num;omega
      have hp1 : ∀ z,0 ≤ (zAv (putA S n.num ((zAv S n.num).getD 0 + 1)) z).getD 0:=fun z=>by
        rw [zBo];split
        · simp only [Option.getD_some];omega
        · exact hp z
      by_cases hnx : n.num = x
      · refine ⟨(true,putA S n.num ((zAv S n.num).getD 0 + 1)),Ev.all fun m=>?_,hp1,⟨fun _=>?_,(fun c=>by cases c),(fun c=>by cases c),(fun c=>by cases c),(fun c=>by cases c)⟩⟩
        · simp only [zBc,inS]
          rw [if_neg Bool.false_ne_true,if_neg hc',if_pos hnx]
          have : ∀ (l : List Nd) (q : Seen),zBc (inS m L x) (true,q) l = some (true,q):=by
            intro l q
            induction l with
            | nil=>rfl
            | cons a l ihl=>simp only [zBc,inS,if_true,ihl]
          exact this t _
        · rw [zCA,zEF,sub1,if_pos hk,hnx,h.fr x hx];exact .inl (zC5.2 rfl)
      · have hS1 : ¬ Vis (putA S n.num ((zAv S n.num).getD 0 + 1)) x:=fun c=>by
          rcases (zKs hv).1 c with c | c
          · exact hnx c.symm
          · exact hS c
        obtain ⟨⟨b1,S2⟩,e1,hp2,k1⟩:=hy n.num (zBL.2 (.inl ⟨hk,rfl⟩)) _ hp1 hS1
        have hin : Vin x (sub ρ ((zAv L n.num).getD [])) → Vin x (sub ρ (n :: t)):=fun hin=>by
          rw [zCA,zEF,sub1,if_pos hk]
          cases hq : zAv L n.num with
          | none=>rw [hq] at hin;exact absurd hin zEe
          | some u=>rw [hq] at hin;rw [h.eq _ u hq];exact .inl hin
        cases b1 with
        | true =>
          refine ⟨(true,S2),e1.mono fun m hm=>?_,hp2,⟨fun _=>hin (k1.yes rfl),(fun c=>by cases c),(fun c=>by cases c),(fun c=>by cases c),(fun c=>by cases c)⟩⟩
          simp only [zBc,inS]
          rw [if_neg Bool.false_ne_true,if_neg hc',if_neg hnx,hm]
          have : ∀ (l : List Nd) (q : Seen),zBc (inS m L x) (true,q) l = some (true,q):=by
            intro l q
            induction l with
            | nil=>rfl
            | cons a l ihl=>simp only [zBc,inS,if_true,ihl]
          exact this t _
        | false =>
          obtain ⟨r,e2,hp3,k2⟩:=ih S2 hp2 (k1.not rfl)
          refine ⟨r,(e1.and e2).mono fun m ⟨h1,h2⟩=>?_,hp3,⟨fun c=>?_,k2.not,fun c z hz=>?_,fun c z hz=>?_,fun c z hz=>?_⟩⟩
          · simp only [zBc,inS]
            rw [if_neg Bool.false_ne_true,if_neg hc',if_neg hnx,h1];exact h2
          · rw [zCA,zEF];exact .inr (k2.yes c)
          · exact k2.keep c z (k1.keep rfl z ((zKs hv).2 (.inr hz)))
          · rcases zBL.1 hz with ⟨_,rfl⟩ | hz
            · exact k2.keep c _ (k1.keep rfl _ ((zKs hv).2 (.inl rfl)))
            · exact k2.has c z hz
          · rcases k2.shut c z hz with hz2 | hz2
            · rcases k1.shut rfl z hz2 with hz3 | hz3
              · rcases (zKs hv).1 hz3 with rfl | hz4
                · exact .inr fun u y hu hyu=>k2.keep c y (k1.has rfl y (by rw [hu];exact hyu))
                · exact .inl hz4
              · exact .inr fun u y hu hyu=>k2.keep c y (hz3 u y hu hyu)
            · exact .inr hz2
theorem Inv.in_var (h : Inv V L ρ) {x : Int} (hx : zAv L x = none) : ∀ k,∀ S : Seen,(∀ z,0 ≤ (zAv S z).getD 0) → ¬ Vis S x → ∃ r,(Ev fun m=>inF m L x ((zAv L k).getD []) S = some r) ∧ (∀ z,0 ≤ (zAv r.2 z).getD 0) ∧ Lk ρ L x ((zAv L k).getD []) S r:=by
  refine h.ind (fun k hk S hp hS=>?_) (fun k t hk ih S hp hS=>?_)
  · rw [hk]
    obtain ⟨r,e,k1,k2⟩:=h.in_list hx [] (fun y hy=>absurd hy zEe) S hp hS
    exact ⟨r,e.succ fun m hm=>by rw [zF3];exact hm,k1,k2⟩
  · rw [hk]
    obtain ⟨r,e,k1,k2⟩:=h.in_list hx t (fun y hy=>ih y hy) S hp hS
    exact ⟨r,e.succ fun m hm=>by rw [zF3];exact hm,k1,k2⟩
theorem Inv.inF (h : Inv V L ρ) {x : Int} (hx : zAv L x = none) (t : List Nd) : ∃ r,(Ev fun m=>inF m L x t [] = some r) ∧ (r.1 = true ↔ Vin x (sub ρ t)):=by
  obtain ⟨r,e,_,k⟩:=h.in_list hx t (fun y _=>h.in_var hx y) [] (fun z=>by simp [zAv]) (by simp [Vis,zAv])
  refine ⟨r,e.succ fun m hm=>by rw [zF3];exact hm,k.yes,fun hv=>?_⟩
  cases hb : r.1 with
  | true=>rfl
  | false =>
    exfalso
    have all : ∀ z,Vis r.2 z → ¬ Vin x (ρ z):=by
      refine h.ind (fun z hz hs hv=>?_) (fun z u hz ih hs hv=>?_)
      · rw [h.fr z hz,zC5] at hv;subst hv;exact k.not hb hs
      · rw [h.eq z u hz,zGW] at hv
        obtain ⟨y,hy,hv⟩:=hv
        rcases k.shut hb z hs with c | c
        · simp [Vis,zAv] at c
        · exact ih y hy (c u y hz hy) hv
    obtain ⟨y,hy,hv⟩:=zGW.1 hv
    exact all y (k.has hb y hy) hv
end
end Go.Proofs.YtblomnkamngnbaaGreatDoor
namespace Go.Proofs.YtblomnkamngnbaaGreatDoor
section
variable {V : List Int} {L : Sto} {ρ : Int → List Nd}
theorem Inv.uniq (h : Inv V L ρ) {τ : Int → List Nd} (h2 : Inv V L τ) : τ = ρ:=by
  funext k
  refine h.ind (P:=fun k=>τ k = ρ k) (fun k hk=>by rw [h.fr k hk,h2.fr k hk]) (fun k t hk ih=>?_) k
  rw [h.eq k t hk,h2.eq k t hk];exact zGc ih
def zIK (n : Nat) (L : Sto) (a b : List Nd) : Option (Int × Sto):=match a[0]?,b[0]? with
  | some x,some y =>
    if a.length > 4000 ∨ b.length > 4000 then none
    else if x.kind = 31 ∧ y.kind = 31 then (if x.num ≠ y.num then some (0,putA L (max x.num y.num) (varN (min x.num y.num))) else some (0,L))
    else if y.kind = 31 then zEk n L b a
    else if x.kind = 31 then (match inF n L x.num b [] with
      | some (true,_)=>some (91,L)
      | some (false,_)=>some (0,putA L x.num b)
      | none=>none)
    else if x ≠ y then some (91,L)
    else zBc (kidS n a b) (0,L) (List.range (zBn a 0).length)
  | _,_=>none
theorem zIJ {n : Nat} {a0 b0 a b : List Nd} (h1 : zD2 n L a0 = some a) (h2 : zD2 n L b0 = some b) : zEk (n + 1) L a0 b0 = zIK n L a b:=by
  rw [zFw,h1,h2];rfl
def Res (V : List Int) (L : Sto) (E : (Int → List Nd) → Prop) (r : Int × Sto) : Prop :=
  (r.1 = 0 ∧ (∃ ρ',Inv V r.2 ρ') ∧ (r.2 = L ∨ free V r.2 < free V L) ∧ ∀ σ : Int → List Nd,(∀ x,Whl (σ x)) → (Sat σ r.2 ↔ Sat σ L ∧ E σ)) ∨
  (r.1 = 91 ∧ ∀ σ : Int → List Nd,(∀ x,Whl (σ x)) → ¬ (Sat σ L ∧ E σ))
theorem Res.congr {E F : (Int → List Nd) → Prop} {r : Int × Sto} (h : Res V L E r) (he : ∀ σ : Int → List Nd,(∀ x,Whl (σ x)) → Sat σ L → (E σ ↔ F σ)) : Res V L F r:=by
  rcases h with ⟨h1,h2,h3,h4⟩ | ⟨h1,h2⟩
  · refine .inl ⟨h1,h2,h3,fun σ hw=>?_⟩
    rw [h4 σ hw]
    exact ⟨fun ⟨p,q⟩=>⟨p,(he σ hw p).1 q⟩,fun ⟨p,q⟩=>⟨p,(he σ hw p).2 q⟩⟩
  · exact .inr ⟨h1,fun σ hw ⟨p,q⟩=>h2 σ hw ⟨p,(he σ hw p).2 q⟩⟩
theorem Inv.same_var (h : Inv V L ρ) {x : Int} (hx : zAv L x = none) (hV : x ∈ V) (hr : Rng x) {n : Nd} {r : List Nd} (hn : n.kind ≠ 31) (hb : Gd V (n :: r)) :
    ∃ q,(Ev fun m=>zIK m L [vN x] (n :: r) = some q) ∧ Res V L (fun σ=>σ x = sub σ (n :: r)) q:=by
  obtain ⟨⟨b,S⟩,e,hi⟩:=h.inF hx (n :: r)
  have hlen : ¬ ([vN x].length > 4000 ∨ (n :: r).length > 4000):=by have:=hb.len;simp only [List.length_singleton];omega
  cases b with
  | true =>
    refine ⟨(91,L),e.mono fun m hm=>?_,.inr ⟨rfl,fun σ _ ⟨hs,he⟩=>?_⟩⟩
    · simp only [zIK,List.getElem?_cons_zero]
      rw [if_neg hlen,if_neg (fun c=>hn c.2),if_neg hn,if_pos (show (vN x).kind = 31 from rfl),show (vN x).num = x from rfl,hm]
    · have hv:=hi.1 rfl
      rw [zDW hn] at hv
      rcases zBL.1 hv with ⟨c,_⟩ | hv
      · exact hn c
      · have h1:=zPj (σ:=σ) hv
        have h2:=h.absorbL hs (n :: r)
        rw [zDW hn,zDW hn,zDW hn] at h2
        injection h2 with _ h2
        have he : σ x = sub σ (n :: r):=he
        rw [he,zDW hn,h2,List.length_cons] at h1
        omega
  | false =>
    have hno : ¬ Vin x (sub ρ (n :: r)):=fun c=>by cases hi.2 c
    refine ⟨(0,putA L x (n :: r)),e.mono fun m hm=>?_,.inl ⟨rfl,⟨_,h.put hx hV hr hb (.inr ⟨n,r,rfl,hn⟩) hno⟩,.inr (zKY hx hV),fun σ _=>zRj hx⟩⟩
    simp only [zIK,List.getElem?_cons_zero]
    rw [if_neg hlen,if_neg (fun c=>hn c.2),if_neg hn,if_pos (show (vN x).kind = 31 from rfl),show (vN x).num = x from rfl,hm]
theorem zQU {a : List Nd} {n : Nd} {KK : List (List Nd)} (h : Node a 0 n KK []) {i : Nat} {K : List Nd} (hK : KK[i]? = some K) : ∃ k,(zBn a 0)[i]? = some k ∧ cutO a k (endF a k) = some K:=by
  have h1:=h.kidsEq
  have hi : i < KK.length:=(List.getElem?_eq_some_iff.1 hK).1
  have h2:=zOe (b:=((0 : Nat) : Int) + 1) hi
  rw [← h1] at h2
  obtain ⟨h3,h4⟩:=zQT (n:=1) h.next h.whole hK
  refine ⟨_,h2,?_⟩
  rw [show ((0 : Nat) : Int) + 1 = ((1 : Nat) : Int) from rfl,h3]
  have hl:=congrArg List.length h4
  simp only [List.length_drop,List.length_append] at hl
  have hp:=Whl.pos (h.whole K (List.mem_of_getElem? hK))
  rw [cutO,if_pos (by omega)]
  rw [show ((1 : Nat) : Int) + ((KK.take i).flatten.length : Nat) + (K.length : Nat) = ((1 + (KK.take i).flatten.length + K.length : Nat) : Int) by omega,show ((1 : Nat) : Int) + ((KK.take i).flatten.length : Nat) = ((1 + (KK.take i).flatten.length : Nat) : Int) by omega,Int.toNat_natCast,Int.toNat_natCast]
  rw [List.drop_take,h4,show 1 + (KK.take i).flatten.length + K.length - (1 + (KK.take i).flatten.length) = K.length by omega,List.take_left]
theorem zQt {σ : Int → List Nd} {K : List Nd} : ∀ {KK : List (List Nd)},K ∈ KK → (sub σ K).length ≤ (sub σ KK.flatten).length
  | [],h=>by cases h
  | M :: KK,h=>by
    rw [List.flatten_cons,zHJ,List.length_append]
    rcases List.mem_cons.1 h with rfl | h
    · omega
    · have:=zQt (σ:=σ) h;omega
theorem zTg {K : List Nd} : ∀ {KK : List (List Nd)},K ∈ KK → K.length ≤ KK.flatten.length
  | [],h=>by cases h
  | M :: KK,h=>by
    rw [List.flatten_cons,List.length_append]
    rcases List.mem_cons.1 h with rfl | h
    · omega
    · have:=zTg h;omega
theorem Gd.kid {n : Nd} {KK : List (List Nd)} (h : Gd V (n :: KK.flatten)) {K : List Nd} (hK : K ∈ KK) (ht : Ty K) : Gd V K:=by
  refine ⟨ht,?_,fun x hx=>h.vs x (zBL.2 (.inr ?_))⟩
  · have:=h.len;have:=zTg hK;rw [List.length_cons] at *;omega
  · obtain ⟨m,hm,e⟩:=hx;exact ⟨m,List.mem_flatten.2 ⟨K,hK,hm⟩,e⟩
theorem zOr {f : List Nd → List Nd} {KK MM : List (List Nd)} (hl : KK.length = MM.length) : KK.map f = MM.map f ↔ ∀ (i : Nat) (K M : List Nd),i ∈ List.range KK.length → KK[i]? = some K → MM[i]? = some M → f K = f M:=by
  constructor
  · intro h i K M _ h1 h2
    have:=congrArg (·[i]?) h
    simpa [h1,h2] using this
  · intro h
    refine List.ext_getElem? fun i=>?_
    rw [List.getElem?_map,List.getElem?_map]
    by_cases hi : i < KK.length
    · have h1 : KK[i]? = some KK[i]:=List.getElem?_eq_getElem hi
      have h2 : MM[i]? = some (MM[i]'(hl ▸ hi)):=List.getElem?_eq_getElem (hl ▸ hi)
      rw [h1,h2,Option.map_some,Option.map_some,h i _ _ (List.mem_range.2 hi) h1 h2]
    · rw [List.getElem?_eq_none (by omega),List.getElem?_eq_none (by omega)]
theorem zLT (V : List Int) {L : Sto} {a b : List Nd} {n m : Nd} {KK MM : List (List Nd)} (ha : Node a 0 n KK []) (hb : Node b 0 m MM []) (hl : KK.length = MM.length)
    (IH : ∀ (i : Nat) (K M : List Nd) (L1 : Sto) (ρ1 : Int → List Nd),KK[i]? = some K → MM[i]? = some M → Inv V L1 ρ1 → (L1 = L ∨ free V L1 < free V L) → ∃ q,(Ev fun m=>zEk m L1 K M = some q) ∧ Res V L1 (fun σ=>sub σ K = sub σ M) q) :
    ∀ (is : List Nat),(∀ i ∈ is,i < KK.length) → ∀ (L1 : Sto) (ρ1 : Int → List Nd),Inv V L1 ρ1 → (L1 = L ∨ free V L1 < free V L) →
      ∃ q,(Ev fun m=>zBc (kidS m a b) (0,L1) is = some q) ∧ Res V L1 (fun σ=>∀ (i : Nat) (K M : List Nd),i ∈ is → KK[i]? = some K → MM[i]? = some M → sub σ K = sub σ M) q
  | [],_,L1,ρ1,hI,hf=>⟨(0,L1),Ev.all fun _=>rfl,.inl ⟨rfl,⟨ρ1,hI⟩,.inl rfl,fun σ _=>⟨fun h=>⟨h,fun _ _ _ h=>by cases h⟩,fun h=>h.1⟩⟩⟩
  | i :: is,hi,L1,ρ1,hI,hf=>by
    have hik:=hi i List.mem_cons_self
    have h1 : KK[i]? = some KK[i]:=List.getElem?_eq_getElem hik
    have h2 : MM[i]? = some (MM[i]'(hl ▸ hik)):=List.getElem?_eq_getElem (hl ▸ hik)
    obtain ⟨k,hk1,hk2⟩:=zQU ha h1
    obtain ⟨l,hl1,hl2⟩:=zQU hb h2
    obtain ⟨⟨e,L2⟩,he,hr⟩:=IH i _ _ L1 ρ1 h1 h2 hI hf
    have step : ∀ m q,zEk m L1 KK[i] (MM[i]'(hl ▸ hik)) = some q → kidS m a b (0,L1) i = some q:=fun m q hq=>by
      simp only [kidS,hk1,hl1,hk2,hl2];rw [if_neg (fun c=>c rfl),hq]
    rcases hr with ⟨r1,⟨ρ2,r2⟩,r3,r4⟩ | ⟨r1,r2⟩
    · simp only at r1 r2 r3 r4
      subst r1
      obtain ⟨q,hq1,hq2⟩:=zLT V ha hb hl IH is (fun j hj=>hi j (List.mem_cons_of_mem _ hj)) L2 ρ2 r2 (by rcases r3 with rfl | r3;exact hf;rcases hf with rfl | hf;exact .inr r3;exact .inr (by omega))
      refine ⟨q,(he.and hq1).mono fun m ⟨p1,p2⟩=>?_,?_⟩
      · simp only [zBc,step m _ p1];exact p2
      · have key : ∀ σ : Int → List Nd,(∀ x,Whl (σ x)) → ((Sat σ L2 ∧ ∀ (i : Nat) (K M : List Nd),i ∈ is → KK[i]? = some K → MM[i]? = some M → sub σ K = sub σ M) ↔ (Sat σ L1 ∧ ∀ (j : Nat) (K M : List Nd),j ∈ i :: is → KK[j]? = some K → MM[j]? = some M → sub σ K = sub σ M)):=fun σ hw=>by
          rw [r4 σ hw]
          constructor
          · rintro ⟨⟨s1,s2⟩,s3⟩
            refine ⟨s1,fun j K M hj hK hM=>?_⟩
            rcases List.mem_cons.1 hj with rfl | hj
            · rw [h1] at hK;rw [h2] at hM;injection hK with hK;injection hM with hM;subst hK;subst hM;exact s2
            · exact s3 j K M hj hK hM
          · rintro ⟨s1,s2⟩
            exact ⟨⟨s1,s2 i _ _ List.mem_cons_self h1 h2⟩,fun j K M hj=>s2 j K M (List.mem_cons_of_mem _ hj)⟩
        rcases hq2 with ⟨t1,t2,t3,t4⟩ | ⟨t1,t2⟩
        · refine .inl ⟨t1,t2,by rcases t3 with e | t3;rw [e];exact r3;rcases r3 with rfl | r3;exact .inr t3;exact .inr (by omega),fun σ hw=>(t4 σ hw).trans (key σ hw)⟩
        · exact .inr ⟨t1,fun σ hw c=>t2 σ hw ((key σ hw).2 c)⟩
    · simp only at r1 r2
      subst r1
      refine ⟨(91,L2),he.mono fun m hm=>?_,.inr ⟨rfl,fun σ hw ⟨s1,s2⟩=>r2 σ hw ⟨s1,s2 i _ _ List.mem_cons_self h1 h2⟩⟩⟩
      simp only [zBc,step m _ hm]
      have : ∀ l : List Nat,zBc (kidS m a b) (91,L2) l = some (91,L2):=by
        intro l
        induction l with
        | nil=>rfl
        | cons j l ihl=>simp only [zBc,kidS];rw [if_pos (by simp)];exact ihl
      exact this is
theorem zLc {b : List Nd} (h : (∃ x,b = [vN x] ∧ zAv L x = none) ∨ ∃ n r,b = n :: r ∧ n.kind ≠ 31) : Ev fun m=>zD2 m L b = some b:=by
  rcases h with ⟨x,rfl,hx⟩ | ⟨n,r,rfl,hn⟩
  · exact (Ev.all (P:=fun _=>True) fun _=>trivial).succ fun m _=>by rw [zGx,hx]
  · exact (Ev.all (P:=fun _=>True) fun _=>trivial).succ fun m _=>zIf m L r hn
theorem Inv.same : ∀ (u s : Nat) (L : Sto) (ρ : Int → List Nd) (a b : List Nd),Inv V L ρ → free V L = u → (sub ρ a).length = s → Gd V a → Gd V b →
    ∃ q,(Ev fun m=>zEk m L a b = some q) ∧ Res V L (fun σ=>sub σ a = sub σ b) q:=by
  intro u
  induction u using Nat.strongRecOn with
  | _ u ih1 =>
  intro s
  induction s using Nat.strongRecOn with
  | _ s ih2 =>
  intro L ρ a0 b0 h hu hs ha0 hb0
  obtain ⟨a,ea,ha⟩:=h.head ha0
  obtain ⟨b,eb,hb⟩:=h.head hb0
  have toB : ∀ q,(Ev fun m=>zIK m L a b = some q) → Ev fun m=>zEk m L a0 b0 = some q:=fun q hq=>((ea.and eb).and hq).succ fun m ⟨⟨p1,p2⟩,p3⟩=>by rw [zIJ p1 p2,p3]
  have toE : ∀ q,Res V L (fun σ=>sub σ a = sub σ b) q → Res V L (fun σ=>sub σ a0 = sub σ b0) q:=fun q hq=>hq.congr fun σ _ hs=>by rw [ha.eq σ hs,hb.eq σ hs]
  suffices hmain : ∃ q,(Ev fun m=>zIK m L a b = some q) ∧ Res V L (fun σ=>sub σ a = sub σ b) q by
    obtain ⟨q,q1,q2⟩:=hmain;exact ⟨q,toB q q1,toE q q2⟩
  have hla:=ha.gd.len
  have hlb:=hb.gd.len
  have hlen : ¬ (a.length > 4000 ∨ b.length > 4000):=by omega
  rcases ha.is with ⟨x,rfl,hx,hxV,hxr⟩ | ⟨n,r,rfl,hn⟩
  · rcases hb.is with ⟨y,rfl,hy,hyV,hyr⟩ | ⟨m,r2,rfl,hm⟩
    · by_cases hxy : x = y
      · subst hxy
        refine ⟨(0,L),Ev.all fun m=>?_,.inl ⟨rfl,⟨ρ,h⟩,.inl rfl,fun σ _=>⟨fun c=>⟨c,rfl⟩,fun c=>c.1⟩⟩⟩
        simp only [zIK,List.getElem?_cons_zero]
        rw [if_neg hlen,if_pos ⟨rfl,rfl⟩,if_neg (fun c=>c rfl)]
      · refine ⟨(0,putA L (max x y) [vN (min x y)]),Ev.all fun m=>?_,?_⟩
        · simp only [zIK,List.getElem?_cons_zero]
          rw [if_neg hlen,if_pos ⟨rfl,rfl⟩,if_pos (show (vN x).num ≠ (vN y).num from hxy)]
          rfl
        · have go : ∀ x y : Int,zAv L x = none → zAv L y = none → x ∈ V → y ∈ V → Rng x → Rng y → x < y → Res V L (fun σ=>σ y = σ x) (0,putA L y [vN x]):=fun x y hx hy hxV hyV hxr hyr hlt=>by
            refine .inl ⟨rfl,⟨_,h.put hy hyV hyr ⟨zI8 hxr,by simp,fun z hz=>by rw [zC5] at hz;subst hz;exact hxV⟩ (.inl ⟨x,rfl,hlt⟩) (fun c=>?_)⟩,.inr (zKY hy hyV),fun σ _=>?_⟩
            · rw [zCd,h.fr x hx,zC5] at c;omega
            · rw [zRj hy,zCd]
          rcases Int.lt_or_gt_of_ne hxy with hlt | hlt
          · rw [Int.max_eq_right (by omega),Int.min_eq_left (by omega)]
            exact (go x y hx hy hxV hyV hxr hyr hlt).congr fun σ _ _=>by rw [zCd,zCd];exact eq_comm
          · rw [Int.max_eq_left (by omega),Int.min_eq_right (by omega)]
            exact (go y x hy hx hyV hxV hyr hxr hlt).congr fun σ _ _=>by rw [zCd,zCd]
    · obtain ⟨q,q1,q2⟩:=h.same_var hx hxV hxr hm hb.gd
      exact ⟨q,q1,q2.congr fun σ _ _=>by rw [zCd]⟩
  · rcases hb.is with ⟨y,rfl,hy,hyV,hyr⟩ | ⟨m,r2,rfl,hm⟩
    · obtain ⟨q,q1,q2⟩:=h.same_var hy hyV hyr hn ha.gd
      have e1:=zLc (L:=L) (.inl ⟨y,rfl,hy⟩)
      have e2:=zLc (L:=L) (.inr ⟨n,r,rfl,hn⟩)
      have e3 : Ev fun m=>zEk m L [vN y] (n :: r) = some q:=((e1.and e2).and q1).succ fun m ⟨⟨p1,p2⟩,p3⟩=>by rw [zIJ p1 p2,p3]
      refine ⟨q,e3.mono fun m hm=>?_,q2.congr fun σ _ _=>by rw [zCd];exact eq_comm⟩
      simp only [zIK,List.getElem?_cons_zero]
      rw [if_neg hlen,if_neg (fun c=>hn c.1),if_pos (show (vN y).kind = 31 from rfl)];exact hm
    · rcases ha.gd.ty.cases with ⟨x,e,_⟩ | ⟨n',KK,e,_,hnk,hKK,hN⟩
      · injection e with e _;subst e;exact absurd rfl hn
      injection e with e1 e2;subst e1;subst e2
      rcases hb.gd.ty.cases with ⟨x,e,_⟩ | ⟨m',MM,e,_,hmk,hMM,hM⟩
      · injection e with e _;subst e;exact absurd rfl hm
      injection e with e1 e2;subst e1;subst e2
      by_cases hnm : n = m
      · subst hnm
        have hl : KK.length = MM.length:=by omega
        have hsz : ∀ K ∈ KK,(sub ρ K).length < s:=fun K hK=>by
          have h1:=ha.eq ρ h.sat
          rw [zDW hn] at h1
          have h2:=zQt (σ:=ρ) hK
          rw [← hs, ← h1,List.length_cons];omega
        obtain ⟨q,q1,q2⟩:=zLT V (L:=L) hN hM hl (fun i K M L1 ρ1 hK hM2 hI hf=>by
          have hKm:=List.mem_of_getElem? hK
          have hMm:=List.mem_of_getElem? hM2
          rcases hf with rfl | hf
          · rw [h.uniq hI] at *
            exact ih2 _ (hsz K hKm) L1 ρ K M h hu rfl (ha.gd.kid hKm (hKK K hKm)) (hb.gd.kid hMm (hMM M hMm))
          · exact ih1 _ (by omega) _ L1 ρ1 K M hI rfl rfl (ha.gd.kid hKm (hKK K hKm)) (hb.gd.kid hMm (hMM M hMm)))
          (List.range KK.length) (fun i hi=>List.mem_range.1 hi) L ρ h (.inl rfl)
        refine ⟨q,q1.mono fun k hk=>?_,q2.congr fun σ hw _=>?_⟩
        · simp only [zIK,List.getElem?_cons_zero]
          have hkl : (zBn (n :: KK.flatten) 0).length = KK.length:=by
            have:=hN.kidsEq
            rw [show ((0 : Nat) : Int) = 0 from rfl] at this
            rw [this,zJI]
          rw [if_neg hlen,if_neg (fun c=>hn c.1),if_neg hn,if_neg hn,if_neg (fun c=>c rfl),hkl];exact hk
        · rw [zM0 hw hn hn hnk hmk hKK hMM,zOr hl]
          exact ⟨fun c=>⟨rfl,c⟩,fun c=>c.2⟩
      · refine ⟨(91,L),Ev.all fun k=>?_,.inr ⟨rfl,fun σ _ ⟨_,c⟩=>?_⟩⟩
        · simp only [zIK,List.getElem?_cons_zero]
          rw [if_neg hlen,if_neg (fun c=>hn c.1),if_neg hm,if_neg hn,if_pos hnm]
        · have c : sub σ (n :: KK.flatten) = sub σ (m :: MM.flatten):=c
          rw [zDW hn,zDW hm] at c
          injection c with c _;exact hnm c
end
end Go.Proofs.YtblomnkamngnbaaGreatDoor
namespace Go.Proofs.YtblomnkamngnbaaGreatDoor
theorem zOd {L : List Nd} (h : okT L = true) : Ty L:=by
  obtain ⟨_,h2,h3⟩:=zDJ h
  have h4 : ∀ n ∈ L,zCg n = true:=List.all_eq_true.1 h3
  exact ⟨(zDj L).1 h2,fun n hn hk=>zOi (h4 n hn) hk,h4⟩
theorem zSU {L : List Nd} (h : Ty L) (hl : L.length ≤ 4000) : okT L = true:=by
  rw [okT,decide_eq_true hl,(zDj L).2 h.whl,List.all_eq_true.2 h.rt];rfl
theorem zRB {L : List Nd} : ckT L = 0 ↔ okT L = true:=by
  unfold ckT;split
  · simp [*]
  · constructor
    · intro h;cases h
    · intro h;exact absurd h ‹_›
section
variable {V : List Int} {L : Sto} {ρ : Int → List Nd}
theorem Inv.var_le (h : Inv V L ρ) : ∀ k j,ρ k = [vN j] → j ≤ k:=by
  refine h.ind (fun k hk j e=>?_) (fun k t hk ih j e=>?_)
  · rw [h.fr k hk] at e
    injection e with e _;have : k = j:=congrArg Nd.num e
    omega
  · rw [h.eq k t hk] at e
    rcases h.dn k t hk with ⟨i,rfl,hi⟩ | ⟨n,r,rfl,hn⟩
    · rw [zCd] at e
      have:=ih i (zC5.2 rfl) j e;omega
    · rw [zDW hn] at e;injection e with e _;exact absurd (congrArg Nd.kind e) hn
theorem Inv.is_var (h : Inv V L ρ) (k : Int) : (∃ j,ρ k = [vN j]) ∨ ∃ n r,ρ k = n :: r ∧ n.kind ≠ 31:=by
  cases hk : zAv L k with
  | none=>exact .inl ⟨k,h.fr k hk⟩
  | some t =>
    have hg:=(h.gd k t hk).ty
    rw [h.eq k t hk]
    rcases (h.tyL hg).cases with ⟨x,e,_⟩ | ⟨n,KK,e,hn,_⟩
    · exact .inl ⟨x,e⟩
    · exact .inr ⟨n,_,e,hn⟩
theorem Inv.fix (h : Inv V L ρ) {W : List Int} {M : Sto} {τ : Int → List Nd} (h2 : Inv W M τ) (h12 : ∀ k,sub ρ (τ k) = ρ k) {k : Int} (hk : zAv L k = none) : τ k = [vN k]:=by
  have e:=h12 k
  rw [h.fr k hk] at e
  rcases h2.is_var k with ⟨j,hj⟩ | ⟨n,r,hj,hn⟩
  · rw [hj,zCd] at e
    have h3:=h.var_le j k e
    have h4:=h2.var_le k j hj
    have : j = k:=by omega
    subst this;exact hj
  · rw [hj,zDW hn] at e
    injection e with e _;exact absurd (congrArg Nd.kind e) hn
theorem Inv.one (h : Inv V L ρ) {W : List Int} {M : Sto} {τ : Int → List Nd} (h2 : Inv W M τ) (hs : ∀ σ : Int → List Nd,(∀ x,Whl (σ x)) → (Sat σ L ↔ Sat σ M)) : τ = ρ ∧ ∀ k,(zAv L k).isSome = (zAv M k).isSome:=by
  have s1 : Sat ρ M:=(hs ρ h.whl).1 h.sat
  have s2 : Sat τ L:=(hs τ h2.whl).2 h2.sat
  have a1:=h2.absorb s1
  have a2:=h.absorb s2
  have e : ∀ k,τ k = ρ k:=fun k=>by
    cases hk : zAv L k with
    | none=>rw [h.fr k hk];exact h.fix h2 a1 hk
    | some t =>
      rw [← a2 k]
      have ht : Ty (ρ k):=by rw [h.eq k t hk];exact h.tyL (h.gd k t hk).ty
      exact zTX ht.lf fun x hx=>h.fix h2 a1 (h.unb k x hx)
  refine ⟨funext e,fun k=>?_⟩
  have no : ∀ {V : List Int} {L : Sto} {ρ : Int → List Nd},Inv V L ρ → ∀ k t,zAv L k = some t → ρ k ≠ [vN k]:=fun {V L ρ} h k t hk c=>by
    have:=h.unb k k (by rw [c];exact zC5.2 rfl)
    rw [hk] at this;cases this
  cases hk : zAv L k with
  | none =>
    cases hm : zAv M k with
    | none=>rfl
    | some t=>exact absurd ((e k).trans (h.fr k hk)) (no h2 k t hm)
  | some t =>
    cases hm : zAv M k with
    | none=>exact absurd ((e k).symm.trans (h2.fr k hm)) (no h k t hk)
    | some u=>rfl
end
end Go.Proofs.YtblomnkamngnbaaGreatDoor
namespace Go.Proofs.YtblomnkamngnbaaGreatDoor
theorem zPI {acc : List Int} (h : acc.Nodup) (n : Nd) : (addV acc n).Nodup:=by
  unfold addV
  split
  · rename_i c
    exact List.nodup_append.2 ⟨h,by simp,fun a ha b hb e=>by rw [List.mem_singleton] at hb;subst hb;subst e;exact c.2 ha⟩
  · exact h
theorem zJa : ∀ (L : List Nd) {acc : List Int},acc.Nodup → (L.foldl addV acc).Nodup
  | [],_,h=>h
  | n :: L,_,h=>zJa L (zPI h n)
theorem zH0 : ∀ (L : List Nd) {acc : List Int} {x : Int},x ∈ L.foldl addV acc ↔ x ∈ acc ∨ Vin x L
  | [],acc,x=>by simp [zEe]
  | n :: L,acc,x=>by
    rw [List.foldl_cons,zH0 L,zBL]
    unfold addV
    split
    · rename_i c
      rw [List.mem_append,List.mem_singleton]
      constructor
      · rintro ((h | h) | h)
        · exact .inl h
        · exact .inr (.inl ⟨c.1,h.symm⟩)
        · exact .inr (.inr h)
      · rintro (h | ⟨_,h⟩ | h)
        · exact .inl (.inl h)
        · exact .inl (.inr h.symm)
        · exact .inr h
    · rename_i c
      constructor
      · rintro (h | h)
        · exact .inl h
        · exact .inr (.inr h)
      · rintro (h | ⟨h1,h2⟩ | h)
        · exact .inl h
        · exact .inl (Classical.byContradiction fun d=>c ⟨h1,by rw [h2];exact d⟩)
        · exact .inr h
theorem zFP {L : List Nd} {x : Int} : x ∈ zBu L ↔ Vin x L:=by rw [zBu,zH0];simp
theorem zGN (L : List Nd) : (zBu L).Nodup:=zJa L List.nodup_nil
def ren (f : Int → Int) (n : Nd) : Nd:=if n.kind = 31 then { n with num:=f n.num } else n
theorem zDf (f : Int → Int) (n : Nd) : (ren f n).kind = n.kind:=by unfold ren;split <;> rfl
theorem zKZ {f : Int → Int} : ∀ (L : List Nd) (acc : List Int),(∀ x y,(x ∈ acc ∨ Vin x L) → (y ∈ acc ∨ Vin y L) → f x = f y → x = y) → (L.map (ren f)).foldl addV (acc.map f) = (L.foldl addV acc).map f
  | [],acc,_=>rfl
  | n :: L,acc,hi=>by
    have hstep : addV (acc.map f) (ren f n) = (addV acc n).map f:=by
      unfold addV
      by_cases hk : n.kind = 31
      · have hn : (ren f n).num = f n.num:=by rw [ren,if_pos hk]
        by_cases hm : n.num ∈ acc
        · rw [if_neg (fun c=>c.2 (by rw [hn];exact List.mem_map.2 ⟨_,hm,rfl⟩)),if_neg (fun c=>c.2 hm)]
        · have hm2 : (ren f n).num ∉ acc.map f:=fun c=>by
            rw [hn] at c
            obtain ⟨y,hy,e⟩:=List.mem_map.1 c
            have:=hi y n.num (.inl hy) (.inr (zBL.2 (.inl ⟨hk,rfl⟩))) e
            exact hm (this ▸ hy)
          rw [if_pos ⟨by rw [zDf];exact hk,hm2⟩,if_pos ⟨hk,hm⟩,List.map_append,hn];rfl
      · rw [if_neg (fun c=>hk (by rw [← zDf f n];exact c.1)),if_neg (fun c=>hk c.1)]
    rw [List.map_cons,List.foldl_cons,List.foldl_cons,hstep]
    have mem : ∀ x,(x ∈ addV acc n ∨ Vin x L) → (x ∈ acc ∨ Vin x (n :: L)):=fun x h=>by
      rw [← zH0 (L:=L)] at h;rw [← zH0 (L:=n :: L)];exact h
    exact zKZ L (addV acc n) fun x y hx hy e=>hi x y (mem x hx) (mem y hy) e
theorem zLY {A : List Int} (hn : A.Nodup) {i : Nat} {x : Int} (h : A[i]? = some x) : idxF A x = i:=by
  refine zKI (fun j hj c=>?_) h
  have hi : i < A.length:=(List.getElem?_eq_some_iff.1 h).1
  obtain ⟨_,h1⟩:=List.getElem?_eq_some_iff.1 h
  obtain ⟨hj2,h2⟩:=List.getElem?_eq_some_iff.1 c
  have:=(List.getElem_inj hn).1 (h2.trans h1.symm)
  omega
theorem zUR {A : List Int} (hn : A.Nodup) {x y : Int} (hx : x ∈ A) (hy : y ∈ A) (h : idxF A x = idxF A y) : x = y:=by
  obtain ⟨i,hi⟩:=List.mem_iff_getElem?.1 hx
  obtain ⟨j,hj⟩:=List.mem_iff_getElem?.1 hy
  rw [zLY hn hi,zLY hn hj] at h
  have : i = j:=by omega
  subst this
  rw [hi] at hj;injection hj
def upto (n : Nat) : List Int:=(List.range n).map fun (i : Nat)=>(i : Int)
theorem zR3 (n : Nat) : (upto n).length = n:=by simp [upto]
theorem zOc (n : Nat) : (upto n).Nodup:=by
  have:=(List.nodup_range (n:=n))
  rw [upto,List.Nodup,List.pairwise_map]
  exact this.imp fun h e=>h (by omega)
theorem zUS {A : List Int} (hn : A.Nodup) : A.map (idxF A) = upto A.length:=by
  refine List.ext_getElem? fun i=>?_
  rw [List.getElem?_map,upto,List.getElem?_map]
  by_cases hi : i < A.length
  · rw [List.getElem?_range hi,List.getElem?_eq_getElem hi,Option.map_some,Option.map_some,zLY hn (List.getElem?_eq_getElem hi)]
  · rw [List.getElem?_eq_none (by omega),List.getElem?_eq_none (by simp;omega)];rfl
theorem zEy {L : List Nd} (h : okT L = true) : okT (zB2 L) = true ∧ zBb (zB2 L) = upto (zBb L).length ∧ zB2 (zB2 L) = zB2 L ∧ (zB2 L).length = L.length:=by
  have ty:=zOd h
  have hc : zB2 L = L.map (ren (idxF (zBu L))):=by rw [zB2,if_pos h];rfl
  have hv : zBb L = zBu L:=by rw [zBb,if_pos h]
  have hlen : (zB2 L).length = L.length:=by rw [hc,List.length_map]
  have hvl:=zFQ L []
  rw [show L.foldl addV [] = zBu L from rfl,List.length_nil,Nat.zero_add] at hvl
  have hl:=(zDJ h).1
  have hg : zBu (zB2 L) = upto (zBu L).length:=by
    rw [hc, ← zUS (zGN L)]
    refine zKZ L [] fun x y hx hy e=>?_
    simp only [List.not_mem_nil,false_or] at hx hy
    exact zUR (zGN L) (zFP.2 hx) (zFP.2 hy) e
  have hidx : ∀ n ∈ L,n.kind = 31 → ∃ i : Nat,i < (zBu L).length ∧ idxF (zBu L) n.num = i:=fun n hn hk=>by
    obtain ⟨i,hi⟩:=List.mem_iff_getElem?.1 (zFP.2 (⟨n,hn,hk,rfl⟩ : Vin n.num L))
    exact ⟨i,(List.getElem?_eq_some_iff.1 hi).1,zLY (zGN L) hi⟩
  have hok : okT (zB2 L) = true:=by
    refine zSU ?_ (by omega)
    have e : zB2 L = sub (fun x=>[vN (idxF (zBu L) x)]) L:=by
      rw [hc,sub]
      have : ∀ n ∈ L,sub1 (fun x=>[vN (idxF (zBu L) x)]) n = [ren (idxF (zBu L)) n]:=fun n hn=>by
        unfold sub1 ren
        by_cases hk : n.kind = 31
        · rw [if_pos hk,if_pos hk]
          have e:=(ty.lf n hn hk).1
          rw [e];rfl
        · rw [if_neg hk,if_neg hk]
      clear hc hlen hg hidx hvl hv h ty hl
      revert this
      generalize zBu L = vs
      intro this
      induction L with
      | nil=>rfl
      | cons n r ih=>rw [List.flatMap_cons,this n List.mem_cons_self,List.map_cons,ih (fun m hm=>this m (List.mem_cons_of_mem _ hm))];rfl
    rw [e]
    refine ty.sub fun x hx=>?_
    obtain ⟨n,hn,hk,rfl⟩:=hx
    obtain ⟨i,hi,e⟩:=hidx n hn hk
    exact zI8 (by rw [e];omega)
  refine ⟨hok,by rw [zBb,if_pos hok,hg,hv],?_,hlen⟩
  have h2 : zB2 (zB2 L) = (zB2 L).map (ren (idxF (upto (zBu L).length))):=by
    rw [← hg];conv=>lhs;rw [zB2,if_pos hok]
    rfl
  rw [h2,hc,List.map_map]
  refine List.map_congr_left fun n hn=>?_
  show ren _ (ren _ n) = ren _ n
  by_cases hk : n.kind = 31
  · obtain ⟨i,hi,e⟩:=hidx n hn hk
    have e1 : ren (idxF (zBu L)) n = { n with num:=(i : Int) }:=by rw [ren,if_pos hk,e]
    have e2 : idxF (upto (zBu L).length) (i : Int) = i:=zLY (zOc _) (by rw [upto,List.getElem?_map,List.getElem?_range hi];rfl)
    rw [e1,ren,if_pos (show ({ n with num:=(i : Int) } : Nd).kind = 31 from hk)]
    show ({ n with num:=idxF (upto (zBu L).length) (i : Int) } : Nd) = _
    rw [e2]
  · rw [ren,if_neg (by rw [zDf];exact hk)]
end Go.Proofs.YtblomnkamngnbaaGreatDoor
