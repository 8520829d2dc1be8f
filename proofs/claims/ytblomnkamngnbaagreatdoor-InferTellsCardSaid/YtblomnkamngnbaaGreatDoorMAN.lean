/- Texts of this claim, merged: TypH, TypV, TypW, TypX, TypP. -/
import Derived.Test.YtblomnkamngnbaaGreatDoorMAH
import Derived.Test.YtblomnkamngnbaaGreatDoorMAM
namespace Go.Proofs.YtblomnkamngnbaaGreatDoor
open Go.Sx
def kidS (n : Nat) (a b : List Nd) (p : Int × Sto) (i : Nat) : Option (Int × Sto) :=
  if p.1 ≠ 0 then some p else
    match (zBX a 0)[i]?,(zBX b 0)[i]? with
    | some k,some l=>(match cutO a k (endF a k),cutO b l (endF b l) with
      | some u,some v=>zJo n p.2 u v
      | _,_=>none)
    | _,_=>none
theorem zI4 (n : Nat) (L : Sto) (a0 b0 : List Nd) : zJo (n + 1) L a0 b0 = match zJ2 n L a0,zJ2 n L b0 with
    | some a,some b=>match a[0]?,b[0]? with
      | some x,some y =>
        if a.length > 4000 ∨ b.length > 4000 then none
        else if x.kind = 31 ∧ y.kind = 31 then (if x.num ≠ y.num then some (0,putA L (max x.num y.num) (varN (min x.num y.num))) else some (0,L))
        else if y.kind = 31 then zJo n L b a
        else if x.kind = 31 then (match inF n L x.num b [] with
          | some (true,_)=>some (91,L)
          | some (false,_)=>some (0,putA L x.num b)
          | none=>none)
        else if x ≠ y then some (91,L)
        else zCB (kidS n a b) (0,L) (List.range (zBX a 0).length)
      | _,_=>none
    | _,_=>none:=rfl
def StoB (L : Sto) : Prop:=∀ p ∈ L,p.2.length ≤ 1000000
theorem zMy {β : Type} : ∀ {L : List (Int × β)} {a : Int} {d : β} {p : Int × β},p ∈ putA L a d → p ∈ L ∨ p = (a,d)
  | [],a,d,p,h=>by simp [putA] at h;exact .inr h
  | (k,e) :: r,a,d,p,h=>by
    unfold putA at h
    split at h
    · rename_i hk;subst hk
      rcases List.mem_cons.1 h with h | h
      · exact .inr h
      · exact .inl (by simp [h])
    · rcases List.mem_cons.1 h with h | h
      · exact .inl (by simp [h])
      · rcases zMy h with h | h
        · exact .inl (by simp [h])
        · exact .inr h
theorem StoB.put {L : Sto} (h : StoB L) {a : Int} {t : List Nd} (ht : t.length ≤ 1000000) : StoB (putA L a t):=fun p hp=>by
  rcases zMy hp with h1 | h1
  · exact h p h1
  · rw [h1];exact ht
theorem zJn : ∀ (n : Nat) (L : Sto) (a b : List Nd) (r : Int × Sto),StoB L → zJo n L a b = some r → StoB r.2
  | 0,_,_,_,_,_,h=>by cases h
  | n + 1,L,a0,b0,r,hL,h=>by
    have ih:=zJn n
    rw [zI4] at h
    split at h
    · rename_i a b _ _
      split at h
      · rename_i x y _ _
        split at h
        · cases h
        · split at h
          · split at h
            · injection h with h;subst h;exact hL.put (by simp [varN])
            · injection h with h;subst h;exact hL
          · split at h
            · exact ih _ _ _ _ hL h
            · split at h
              · split at h
                · injection h with h;subst h;exact hL
                · injection h with h;subst h;exact hL.put (by omega)
                · cases h
              · split at h
                · injection h with h;subst h;exact hL
                · refine zEj (J:=fun p : Int × Sto=>StoB p.2) (fun p i c hp hc=>?_) hL h
                  unfold kidS at hc
                  split at hc
                  · injection hc with hc;subst hc;exact hp
                  · split at hc
                    · split at hc
                      · exact ih _ _ _ _ hp hc
                      · cases hc
                    · cases hc
      · cases h
    · cases h
theorem zEO {P : Program} {η : List Ob} {σ : Sl} {dst : Option Nat} {ty : TypeId} {pos : String} {after : Array Edge} {gd : Option (Nat × Bool)} {t : TypeId} {p q : Operand} {a : List Nd} {x : Nd} (hx : a[0]? = some x) (hp : oval σ p = .d (zAc a)) (hq : oval σ q = .d (i64 0)) (hs : zBG P t = some 4) :
    Ylds P η σ ⟨dst,.indexAddr t p q,ty,pos,after,gd⟩ (.rptr x.av.flat) :=
  zGn (xs:=a.map Nd.av) (zAk hp) hq hs (by simp) (by show (a.map Nd.av)[(0 : Int).toNat]? = _;rw [Int.toNat_zero,List.getElem?_map,hx];rfl) (fun d hd=>by obtain ⟨v,_,rfl⟩:=List.mem_map.1 hd;rfl)
theorem zHI {P : Program} {η : List Ob} {σ : Sl} {dst : Option Nat} {ty : TypeId} {pos : String} {after : Array Edge} {gd : Option (Nat × Bool)} {t : TypeId} {p q : Operand} {A : List Int} {i : Nat} {k : Int} (hk : A[i]? = some k) (hp : oval σ p = .d (zBm A)) (hq : oval σ q = .d (i64 (i : Int))) (hs : zBG P t = some 1) :
    Ylds P η σ ⟨dst,.indexAddr t p q,ty,pos,after,gd⟩ (.rptr (ival k).flat) :=
  zGn (xs:=A.map ival) (zAk hp) hq hs (by omega) (by show (A.map ival)[((i : Int)).toNat]? = _;rw [Int.toNat_natCast,List.getElem?_map,hk];rfl) (fun d hd=>by obtain ⟨v,_,rfl⟩:=List.mem_map.1 hd;rfl)
theorem zQn {P : Program} {η : List Ob} {σ : Sl} {dst : Option Nat} {ty : TypeId} {pos : String} {after : Array Edge} {gd : Option (Nat × Bool)} {t : TypeId} {p q r : Operand} {A u : List Nd} {k l : Int} (hu : cutO A k l = some u) (hp : oval σ p = .d (zAc A)) (hq : oval σ q = .d (i64 k)) (hr : oval σ r = .d (i64 l)) (hs : zBG P t = some 4) :
    Ylds P η σ ⟨dst,.slice t p (some q) (some r) none,ty,pos,after,gd⟩ (.d (zAc u)):=by
  unfold cutO at hu
  split at hu
  · rename_i h
    injection hu with hu;subst hu
    exact Y_sl (enc:=Nd.av) (zAk hp) hs hq hr (fun _=>rfl) h
  · cases hu
theorem kids_len (L : List Nd) (a : Int) : (zBX L a).length ≤ L.length:=by
  by_cases h : endF L a < 0
  · rw [zBX,if_pos h];simp
  · obtain ⟨k,x,_,_,h1,h2,_,_,h3⟩:=zK2 h
    rw [h3,List.length_map,List.length_range];omega
theorem zQh {η : List Ob} {σ : Sl} {dst : Option Nat} {ty : TypeId} {pos : String} {after : Array Edge} {gd : Option (Nat × Bool)} {x y : Operand} {yt : TypeId} {a b : Nd} (h : a ≠ b) (hx : oval σ x = .d a.av) (hy : oval σ y = .d b.av) :
    Ylds Tryz.prog η σ ⟨dst,.binOp .neq 40 x y yt,ty,pos,after,gd⟩ (.d (.val (.bool true))):=by
  have:=zKQ (η:=η) (dst:=dst) (ty:=ty) (pos:=pos) (after:=after) (gd:=gd) (yt:=yt) hx hy
  rwa [decide_eq_true h] at this
theorem zQi {η : List Ob} {σ : Sl} {dst : Option Nat} {ty : TypeId} {pos : String} {after : Array Edge} {gd : Option (Nat × Bool)} {x y : Operand} {yt : TypeId} {a b : Nd} (h : a = b) (hx : oval σ x = .d a.av) (hy : oval σ y = .d b.av) :
    Ylds Tryz.prog η σ ⟨dst,.binOp .neq 40 x y yt,ty,pos,after,gd⟩ (.d (.val (.bool false))):=by
  have:=zKQ (η:=η) (dst:=dst) (ty:=ty) (pos:=pos) (after:=after) (gd:=gd) (yt:=yt) hx hy
  rwa [decide_eq_false (by simp [h])] at this
theorem zIa {α β : Type} {f : β → α → Option β} : ∀ (L1 L2 : List α) (b : β),zCB f b (L1 ++ L2) = (zCB f b L1).bind fun c=>zCB f c L2
  | [],L2,b=>rfl
  | x :: L1,L2,b=>by
    simp only [List.cons_append,zCB]
    cases f b x with
    | none=>rfl
    | some c=>exact zIa L1 L2 c
theorem zJQ {α β : Type} {f : β → α → Option β} {c : β} (h : ∀ x,f c x = some c) : ∀ L : List α,zCB f c L = some c
  | []=>rfl
  | x :: L=>by simp only [zCB,h];exact zJQ h L
theorem zP1 {α β : Type} {f : β → α → Option β} {L : List α} {b c r : β} {i : Nat} (h : ∀ x,f c x = some c) (hc : zCB f b (L.take i) = some c) (hr : zCB f b L = some r) : r = c:=by
  rw [← List.take_append_drop i L,zIa,hc,Option.bind_some,zJQ h] at hr
  injection hr with hr;exact hr.symm
theorem zUT {n : Nat} {a b : List Nd} {S : Sto} {i : Nat} {c : Int × Sto} (h : kidS n a b (0,S) i = some c) : ∃ k l u v,(zBX a 0)[i]? = some k ∧ (zBX b 0)[i]? = some l ∧ cutO a k (endF a k) = some u ∧ cutO b l (endF b l) = some v ∧ zJo n S u v = some c:=by
  unfold kidS at h
  simp only [ne_eq,not_true,if_false] at h
  split at h
  · rename_i k l hk hl
    split at h
    · rename_i u v hu hv
      exact ⟨k,l,u,v,hk,hl,hu,hv,h⟩
    · cases h
  · cases h
attribute [local irreducible] zAT Program.underlying Ylds zBA alex zBe zBP awp zAj zBZ zBk zA2 zBH zBR zA8 zBV zBb zBf zBu zBO
abbrev zsN : List Value:=[.int .i64 0,.string ByteArray.empty,.int .i64 0,.int .i64 0]
def ndC (x : Nd) : List SV:=[.d (i64 x.kind),.d (.val (.string ⟨x.text.toArray⟩)),.d (i64 x.num),.d (i64 x.kids)]
set_option maxHeartbeats 8000000 in
theorem zPB (nx : Int) : ∀ (n : Nat) (L : Sto) (a0 b0 : List Nd) (e : Int) (L' : Sto),StoB L → zJo n L a0 b0 = some (e,L') →
    zA2 Tryz.prog 131 [.ptr 0 0,.d (zAc a0),.d (zAc b0)] (stO nx L) (.d (i64 e)) (stO nx L')
  | 0,_,_,_,_,_,_,h=>by cases h
  | n + 1,L,a0,b0,e,L',hL,h=>by
    have ih:=zPB nx n
    rw [zI4] at h
    split at h
    · rename_i a b ha hb0
      split at h
      · rename_i x y hx hy
        split at h
        · cases h
        · rename_i hlen
          have hla : a.length ≤ 2000000:=by omega
          have hlb : b.length ≤ 2000000:=by omega
          have hhA:=zPk nx L n a0 a ha
          have hhB:=zPk nx L n b0 b hb0
          refine zA1 Tryz.func131 rfl Tryz.ntmps131 Tryz.results131 rfl rfl rfl ?_
          intro wb St0 X fx
          split at h
          · rename_i hk
            obtain ⟨hk1,hk2⟩:=hk
            split at h
            · rename_i hne
              injection h with h;injection h with h1 h2;subst h1;subst h2
              repeat' first | (refine zB2 (id:=2) [.y (.d (zAc a)),.y (.rptr x.av.flat),.y (.d (.agg (x.av.flat.take 4))),.y (.d (zAc b)),.y (.rptr y.av.flat),.y (.d (.agg (y.av.flat.take 4))),.mk ⟨7,zsN,40,ndC x⟩ (some 8),.mk ⟨8,zsN,40,zsN.map cst⟩ none,.st 6 ⟨7,zsN,40,ndC x⟩] (by kernel_rfl) (by kernel_rfl) (.inr (by kernel_rfl)) ⟨⟨rfl,zAE rfl⟩,rfl,⟨rfl,zEO hx rfl rfl zAW⟩,rfl,⟨rfl,zAf rfl zAY rfl⟩,rfl,⟨rfl,zAE rfl⟩,rfl,⟨rfl,zEO hy rfl rfl zAW⟩,rfl,⟨rfl,zAf rfl zAY rfl⟩,rfl,⟨rfl,rfl,rfl,zAp,by kernel_rfl,rfl⟩,rfl,⟨rfl,rfl,rfl,zAp,by kernel_rfl,rfl⟩,rfl,⟨⟨_,_,_,_,_,rfl,rfl,rfl,zAY,rfl⟩,rfl,rfl,rfl,rfl,rfl⟩,trivial⟩ ?_)|apply en_n|apply zAH|apply zAB|apply zAF|apply w0|(refine zDC (by kernel_rfl) ?_;apply zAx;exact rfl;exact rfl;exact rfl;(with_reducible exact zAY);exact rfl;exact rfl;exact rfl;exact rfl)|(apply zBD;exact rfl;exact rfl;first|assumption|omega)|(apply zB7;exact rfl;exact rfl;first|assumption|omega)|exact zAo rfl|(refine zBB [0,1] [] rfl rfl zDN (hhA) rfl ?_ rfl (by decide) rfl rfl rfl rfl;(repeat (refine zAL rfl ?_));exact zAS)|(refine zBB [0,1] [] rfl rfl zDN (hhB) rfl ?_ rfl (by decide) rfl rfl rfl rfl;(repeat (refine zAL rfl ?_));exact zAS)|exact zU7 rfl rfl|exact zQk rfl rfl|(apply zAV (hb:=zIR) (hc:=zH1 (min x.num y.num)))|(refine zDC (by kernel_rfl) ?_;apply zGj;exact zFb zAc L (max x.num y.num) (varN (min x.num y.num));exact rfl;exact rfl;exact rfl;exact zAk rfl;(with_reducible exact zHY);(with_reducible exact zEX);exact rfl)|apply ay (hd:=rfl)|exact zAE rfl|exact zAC rfl|exact zAi rfl rfl|exact zAZ rfl|(apply zAR;exact rfl;(with_reducible first|exact fs_1|exact fn_0|exact fn_2))|(apply zAU;exact rfl;(with_reducible first|exact zFD|exact zAe|exact zBK);exact rfl;exact rfl)|(apply w1;exact rfl;exact rfl)|(refine w0' ?_)|(apply zAK;exact rfl)|apply zAI|apply zAM|refine zA6 (by kernel_rfl) (by kernel_rfl) ?_|apply en_r|apply eb_r|exact zAG|refine zAX rfl ?_
              exact zAq (zAO (zAA rfl zAa) (zAD rfl rfl (zAD rfl rfl zAN)) rfl rfl)
            · rename_i hne
              have hne : x.num = y.num:=Classical.byContradiction hne
              injection h with h;injection h with h1 h2;subst h1;subst h2
              repeat' first | (refine zB2 (id:=2) [.y (.d (zAc a)),.y (.rptr x.av.flat),.y (.d (.agg (x.av.flat.take 4))),.y (.d (zAc b)),.y (.rptr y.av.flat),.y (.d (.agg (y.av.flat.take 4))),.mk ⟨7,zsN,40,ndC x⟩ (some 8),.mk ⟨8,zsN,40,zsN.map cst⟩ none,.st 6 ⟨7,zsN,40,ndC x⟩] (by kernel_rfl) (by kernel_rfl) (.inr (by kernel_rfl)) ⟨⟨rfl,zAE rfl⟩,rfl,⟨rfl,zEO hx rfl rfl zAW⟩,rfl,⟨rfl,zAf rfl zAY rfl⟩,rfl,⟨rfl,zAE rfl⟩,rfl,⟨rfl,zEO hy rfl rfl zAW⟩,rfl,⟨rfl,zAf rfl zAY rfl⟩,rfl,⟨rfl,rfl,rfl,zAp,by kernel_rfl,rfl⟩,rfl,⟨rfl,rfl,rfl,zAp,by kernel_rfl,rfl⟩,rfl,⟨⟨_,_,_,_,_,rfl,rfl,rfl,zAY,rfl⟩,rfl,rfl,rfl,rfl,rfl⟩,trivial⟩ ?_)|apply en_n|apply zAH|apply zAB|apply zAF|apply w0|(refine zDC (by kernel_rfl) ?_;apply zAx;exact rfl;exact rfl;exact rfl;(with_reducible exact zAY);exact rfl;exact rfl;exact rfl;exact rfl)|(apply zBD;exact rfl;exact rfl;first|assumption|omega)|(apply zBU;exact rfl;exact rfl;first|assumption|omega)|(refine zBB [0,1] [] rfl rfl zDN (hhA) rfl ?_ rfl (by decide) rfl rfl rfl rfl;(repeat (refine zAL rfl ?_));exact zAS)|(refine zBB [0,1] [] rfl rfl zDN (hhB) rfl ?_ rfl (by decide) rfl rfl rfl rfl;(repeat (refine zAL rfl ?_));exact zAS)|apply ay (hd:=rfl)|exact zAE rfl|exact zAC rfl|exact zAi rfl rfl|exact zAZ rfl|(apply zAR;exact rfl;(with_reducible first|exact fn_0|exact fn_2))|(apply zAU;exact rfl;(with_reducible first|exact zAe|exact zBK);exact rfl;exact rfl)|(apply w1;exact rfl;exact rfl)|(refine w0' ?_)|(apply zAK;exact rfl)|(apply zAQ;exact rfl)|apply zAI|apply zAP|apply zAM|apply en_r|apply eb_r
              exact zAq (zAO (zAA rfl zAa) (zAD rfl rfl (zAD rfl rfl zAN)) rfl rfl)
          · rename_i hk
            split at h
            · rename_i hk2
              have hk1 : x.kind ≠ 31:=fun e=>hk ⟨e,hk2⟩
              have hih:=ih L b a e L' hL h
              repeat' first | (refine zB2 (id:=2) [.y (.d (zAc a)),.y (.rptr x.av.flat),.y (.d (.agg (x.av.flat.take 4))),.y (.d (zAc b)),.y (.rptr y.av.flat),.y (.d (.agg (y.av.flat.take 4))),.mk ⟨7,zsN,40,ndC x⟩ (some 8),.mk ⟨8,zsN,40,zsN.map cst⟩ none,.st 6 ⟨7,zsN,40,ndC x⟩] (by kernel_rfl) (by kernel_rfl) (.inr (by kernel_rfl)) ⟨⟨rfl,zAE rfl⟩,rfl,⟨rfl,zEO hx rfl rfl zAW⟩,rfl,⟨rfl,zAf rfl zAY rfl⟩,rfl,⟨rfl,zAE rfl⟩,rfl,⟨rfl,zEO hy rfl rfl zAW⟩,rfl,⟨rfl,zAf rfl zAY rfl⟩,rfl,⟨rfl,rfl,rfl,zAp,by kernel_rfl,rfl⟩,rfl,⟨rfl,rfl,rfl,zAp,by kernel_rfl,rfl⟩,rfl,⟨⟨_,_,_,_,_,rfl,rfl,rfl,zAY,rfl⟩,rfl,rfl,rfl,rfl,rfl⟩,trivial⟩ ?_)|apply en_n|apply zAH|apply zAB|apply zAF|apply w0|(refine zDC (by kernel_rfl) ?_;apply zAx;exact rfl;exact rfl;exact rfl;(with_reducible exact zAY);exact rfl;exact rfl;exact rfl;exact rfl)|(apply k1u (hd:=rfl);exact rfl;exact rfl)|(apply zBD;exact rfl;exact rfl;first|assumption|omega)|(apply zA9;exact rfl;exact rfl;first|assumption|omega)|(refine zBB [0,1] [] rfl rfl zDN (hhA) rfl ?_ rfl (by decide) rfl rfl rfl rfl;(repeat (refine zAL rfl ?_));exact zAS)|(refine zBB [0,1] [] rfl rfl zDN (hhB) rfl ?_ rfl (by decide) rfl rfl rfl rfl;(repeat (refine zAL rfl ?_));exact zAS)|(refine zA3 [0,1] zJ6 (hih) ?_ rfl rfl (by decide) rfl rfl rfl rfl rfl rfl ?_;(repeat (refine zAL rfl ?_));exact zAS)|apply ay (hd:=rfl)|exact zAE rfl|exact zAC rfl|exact zAh rfl rfl|exact zAZ rfl|(apply zAR;exact rfl;(with_reducible exact fn_0))|(apply zAU;exact rfl;(with_reducible exact zAe);exact rfl;exact rfl)|(refine w0' ?_)|(apply zAK;exact rfl)|(apply zAQ;exact rfl)|apply zAI|apply zAM|apply en_r|apply eb_r
              exact zAq (zAO (zAA rfl zAa) (zAD rfl rfl (zAD rfl rfl zAN)) rfl rfl)
            · rename_i hk2
              split at h
              · rename_i hk1
                split at h
                · rename_i S1 hin
                  injection h with h;injection h with h1 h2;subst h1;subst h2
                  have hp:=zPR nx L x.num hL n b true S1 (by omega) hin
                  repeat' first | (refine zB2 (id:=2) [.y (.d (zAc a)),.y (.rptr x.av.flat),.y (.d (.agg (x.av.flat.take 4))),.y (.d (zAc b)),.y (.rptr y.av.flat),.y (.d (.agg (y.av.flat.take 4))),.mk ⟨7,zsN,40,ndC x⟩ (some 8),.mk ⟨8,zsN,40,zsN.map cst⟩ none,.st 6 ⟨7,zsN,40,ndC x⟩] (by kernel_rfl) (by kernel_rfl) (.inr (by kernel_rfl)) ⟨⟨rfl,zAE rfl⟩,rfl,⟨rfl,zEO hx rfl rfl zAW⟩,rfl,⟨rfl,zAf rfl zAY rfl⟩,rfl,⟨rfl,zAE rfl⟩,rfl,⟨rfl,zEO hy rfl rfl zAW⟩,rfl,⟨rfl,zAf rfl zAY rfl⟩,rfl,⟨rfl,rfl,rfl,zAp,by kernel_rfl,rfl⟩,rfl,⟨rfl,rfl,rfl,zAp,by kernel_rfl,rfl⟩,rfl,⟨⟨_,_,_,_,_,rfl,rfl,rfl,zAY,rfl⟩,rfl,rfl,rfl,rfl,rfl⟩,trivial⟩ ?_)|apply en_n|apply zAH|apply zAB|apply zAF|apply w0|(refine zDC (by kernel_rfl) ?_;apply zAx;exact rfl;exact rfl;exact rfl;(with_reducible exact zAY);exact rfl;exact rfl;exact rfl;exact rfl)|(apply zBD;exact rfl;exact rfl;first|assumption|omega)|(apply zA9;exact rfl;exact rfl;first|assumption|omega)|(refine zBB [0,1] [] rfl rfl zDN (hhA) rfl ?_ rfl (by decide) rfl rfl rfl rfl;(repeat (refine zAL rfl ?_));exact zAS)|(refine zBB [0,1] [] rfl rfl zDN (hhB) rfl ?_ rfl (by decide) rfl rfl rfl rfl;(repeat (refine zAL rfl ?_));exact zAS)|(refine zA3 [0,1] zPp (hp) ?_ rfl rfl (by decide) rfl rfl rfl rfl rfl rfl ?_;(repeat (refine zAL rfl ?_));exact zAS)|apply ay (hd:=rfl)|exact zAE rfl|exact zAC rfl|exact zAi rfl rfl|exact zAZ rfl|(apply zAR;exact rfl;(with_reducible first|exact fn_0|exact fn_2))|(apply zAU;exact rfl;(with_reducible first|exact zAe|exact zBK);exact rfl;exact rfl)|(apply w1;exact rfl;exact rfl)|(refine w0' ?_)|(apply zAK;exact rfl)|(apply zAQ;exact rfl)|apply zAI|apply zAM|apply en_r|apply eb_r
                  exact zAq (zAO (zAA rfl zAa) (zAD rfl rfl (zAD rfl rfl zAN)) rfl rfl)
                · rename_i S1 hin
                  injection h with h;injection h with h1 h2;subst h1;subst h2
                  have hp:=zPR nx L x.num hL n b false S1 (by omega) hin
                  repeat' first | (refine zB2 (id:=2) [.y (.d (zAc a)),.y (.rptr x.av.flat),.y (.d (.agg (x.av.flat.take 4))),.y (.d (zAc b)),.y (.rptr y.av.flat),.y (.d (.agg (y.av.flat.take 4))),.mk ⟨7,zsN,40,ndC x⟩ (some 8),.mk ⟨8,zsN,40,zsN.map cst⟩ none,.st 6 ⟨7,zsN,40,ndC x⟩] (by kernel_rfl) (by kernel_rfl) (.inr (by kernel_rfl)) ⟨⟨rfl,zAE rfl⟩,rfl,⟨rfl,zEO hx rfl rfl zAW⟩,rfl,⟨rfl,zAf rfl zAY rfl⟩,rfl,⟨rfl,zAE rfl⟩,rfl,⟨rfl,zEO hy rfl rfl zAW⟩,rfl,⟨rfl,zAf rfl zAY rfl⟩,rfl,⟨rfl,rfl,rfl,zAp,by kernel_rfl,rfl⟩,rfl,⟨rfl,rfl,rfl,zAp,by kernel_rfl,rfl⟩,rfl,⟨⟨_,_,_,_,_,rfl,rfl,rfl,zAY,rfl⟩,rfl,rfl,rfl,rfl,rfl⟩,trivial⟩ ?_)|apply en_n|apply zAH|apply zAB|apply zAF|apply w0|(refine zDC (by kernel_rfl) ?_;apply zAx;exact rfl;exact rfl;exact rfl;(with_reducible exact zAY);exact rfl;exact rfl;exact rfl;exact rfl)|(apply zBD;exact rfl;exact rfl;first|assumption|omega)|(apply zA9;exact rfl;exact rfl;first|assumption|omega)|exact zAo rfl|(refine zBB [0,1] [] rfl rfl zDN (hhA) rfl ?_ rfl (by decide) rfl rfl rfl rfl;(repeat (refine zAL rfl ?_));exact zAS)|(refine zBB [0,1] [] rfl rfl zDN (hhB) rfl ?_ rfl (by decide) rfl rfl rfl rfl;(repeat (refine zAL rfl ?_));exact zAS)|(refine zA3 [0,1] zPp (hp) ?_ rfl rfl (by decide) rfl rfl rfl rfl rfl rfl ?_;(repeat (refine zAL rfl ?_));exact zAS)|(refine zDC (by kernel_rfl) ?_;apply zGj;exact zFb zAc L x.num b;exact rfl;exact rfl;exact rfl;exact zAk rfl;(with_reducible exact zHY);(with_reducible exact zEX);exact rfl)|apply ay (hd:=rfl)|exact zAE rfl|exact zAC rfl|exact zAi rfl rfl|exact zAZ rfl|(apply zAR;exact rfl;(with_reducible first|exact fs_1|exact fn_0|exact fn_2))|(apply zAU;exact rfl;(with_reducible first|exact zFD|exact zAe|exact zBK);exact rfl;exact rfl)|(apply w1;exact rfl;exact rfl)|(refine w0' ?_)|(apply zAK;exact rfl)|(apply zAQ;exact rfl)|apply zAI|apply zAP|apply zAM|refine zA6 (by kernel_rfl) (by kernel_rfl) ?_|apply en_r|apply eb_r
                  exact zAq (zAO (zAA rfl zAa) (zAD rfl rfl (zAD rfl rfl zAN)) rfl rfl)
                · cases h
              · rename_i hk1
                split at h
                · rename_i hxy
                  injection h with h;injection h with h1 h2;subst h1;subst h2
                  repeat' first | (refine zB2 (id:=2) [.y (.d (zAc a)),.y (.rptr x.av.flat),.y (.d (.agg (x.av.flat.take 4))),.y (.d (zAc b)),.y (.rptr y.av.flat),.y (.d (.agg (y.av.flat.take 4))),.mk ⟨7,zsN,40,ndC x⟩ (some 8),.mk ⟨8,zsN,40,zsN.map cst⟩ none,.st 6 ⟨7,zsN,40,ndC x⟩] (by kernel_rfl) (by kernel_rfl) (.inr (by kernel_rfl)) ⟨⟨rfl,zAE rfl⟩,rfl,⟨rfl,zEO hx rfl rfl zAW⟩,rfl,⟨rfl,zAf rfl zAY rfl⟩,rfl,⟨rfl,zAE rfl⟩,rfl,⟨rfl,zEO hy rfl rfl zAW⟩,rfl,⟨rfl,zAf rfl zAY rfl⟩,rfl,⟨rfl,rfl,rfl,zAp,by kernel_rfl,rfl⟩,rfl,⟨rfl,rfl,rfl,zAp,by kernel_rfl,rfl⟩,rfl,⟨⟨_,_,_,_,_,rfl,rfl,rfl,zAY,rfl⟩,rfl,rfl,rfl,rfl,rfl⟩,trivial⟩ ?_)|apply en_n|apply zAH|apply zAB|apply zAF|apply w0|(refine zDC (by kernel_rfl) ?_;apply zAx;exact rfl;exact rfl;exact rfl;(with_reducible exact zAY);exact rfl;exact rfl;exact rfl;exact rfl)|(apply k1u (hd:=rfl);exact rfl;exact rfl)|(apply zA9;exact rfl;exact rfl;first|assumption|omega)|(refine zBB [0,1] [] rfl rfl zDN (hhA) rfl ?_ rfl (by decide) rfl rfl rfl rfl;(repeat (refine zAL rfl ?_));exact zAS)|(refine zBB [0,1] [] rfl rfl zDN (hhB) rfl ?_ rfl (by decide) rfl rfl rfl rfl;(repeat (refine zAL rfl ?_));exact zAS)|(apply zQh;exact hxy;exact rfl;exact rfl)|apply ay (hd:=rfl)|exact zAE rfl|exact zAC rfl|exact zAh rfl rfl|exact zAZ rfl|(apply zAR;exact rfl;(with_reducible exact fn_0))|(apply zAU;exact rfl;(with_reducible exact zAe);exact rfl;exact rfl)|(apply zCt;exact rfl;(with_reducible exact zAY);exact rfl;exact rfl;exact rfl)|(refine w0' ?_)|(apply zAK;exact rfl)|(apply zAQ;exact rfl)|apply zAI|apply zAM|apply en_r|apply eb_r
                  exact zAq (zAO (zAA rfl zAa) (zAD rfl rfl (zAD rfl rfl zAN)) rfl rfl)
                · rename_i hxy
                  have hxy : x = y:=Classical.byContradiction hxy
                  repeat' first | (refine zB2 (id:=2) [.y (.d (zAc a)),.y (.rptr x.av.flat),.y (.d (.agg (x.av.flat.take 4))),.y (.d (zAc b)),.y (.rptr y.av.flat),.y (.d (.agg (y.av.flat.take 4))),.mk ⟨7,zsN,40,ndC x⟩ (some 8),.mk ⟨8,zsN,40,zsN.map cst⟩ none,.st 6 ⟨7,zsN,40,ndC x⟩] (by kernel_rfl) (by kernel_rfl) (.inr (by kernel_rfl)) ⟨⟨rfl,zAE rfl⟩,rfl,⟨rfl,zEO hx rfl rfl zAW⟩,rfl,⟨rfl,zAf rfl zAY rfl⟩,rfl,⟨rfl,zAE rfl⟩,rfl,⟨rfl,zEO hy rfl rfl zAW⟩,rfl,⟨rfl,zAf rfl zAY rfl⟩,rfl,⟨rfl,rfl,rfl,zAp,by kernel_rfl,rfl⟩,rfl,⟨rfl,rfl,rfl,zAp,by kernel_rfl,rfl⟩,rfl,⟨⟨_,_,_,_,_,rfl,rfl,rfl,zAY,rfl⟩,rfl,rfl,rfl,rfl,rfl⟩,trivial⟩ ?_)|apply en_n|apply zAH|apply zAB|apply zAF|apply w0|(refine zDC (by kernel_rfl) ?_;apply zAx;exact rfl;exact rfl;exact rfl;(with_reducible exact zAY);exact rfl;exact rfl;exact rfl;exact rfl)|(apply k1u (hd:=rfl);exact rfl;exact rfl)|(apply zA9;exact rfl;exact rfl;first|assumption|omega)|(refine zBB [0,1] [] rfl rfl zDN (hhA) rfl ?_ rfl (by decide) rfl rfl rfl rfl;(repeat (refine zAL rfl ?_));exact zAS)|(refine zBB [0,1] [] rfl rfl zDN (hhB) rfl ?_ rfl (by decide) rfl rfl rfl rfl;(repeat (refine zAL rfl ?_));exact zAS)|(apply zQi;exact hxy;exact rfl;exact rfl)|(apply zAV (hb:=zCY) (hc:=zCd a 0 hla);exact zAX rfl (zAX rfl zAG))|(apply zAV (hb:=zCY) (hc:=zCd b 0 hlb);exact zAX rfl (zAX rfl zAG))|apply ay (hd:=rfl)|exact zAE rfl|exact zAC rfl|(apply zAl;exact rfl;(with_reducible exact zBw))|exact zAh rfl rfl|exact zAZ rfl|(apply zAR;exact rfl;(with_reducible exact fn_0))|(apply zAU;exact rfl;(with_reducible exact zAe);exact rfl;exact rfl)|(apply zCt;exact rfl;(with_reducible exact zAY);exact rfl;exact rfl;exact rfl)|(refine w0' ?_)|(apply zAQ;exact rfl)|apply zAI|apply zAP|apply eb_n
                  refine zAr (α:=Nat × Sto) (fun p=>p.1 ≤ (zBX a 0).length ∧ zCB (kidS n a b) (0,L) ((List.range (zBX a 0).length).take p.1) = some (0,p.2) ∧ StoB p.2) (fun p=>[(0,.ptr 0 0),(1,.d (zAc a)),(2,.d (zAc b)),(9,.d (zBm (zBX a 0))),(10,.d (zBm (zBX b 0))),(87,.d (i64 ((zBX a 0).length : Int))),(88,.d (i64 (p.1 : Int)))])
                    (fun p=>[.bx (fx 0) none [.d (i64 nx),.mp 1],.map (fx 1) (mSto p.2)]) (fun p=>(zBX a 0).length - p.1) (0,L) ⟨Nat.zero_le _,by simp [zCB],hL⟩
                    (zAO (zAA rfl (zAA rfl (zAA rfl (zAA rfl (zAA rfl (Le_d rfl rfl (zAA rfl zAa))))))) (zAD rfl rfl (zAD rfl rfl zAN)) rfl rfl) ?_
                  have hkl:=kids_len a 0
                  rintro ⟨i,S1⟩ ⟨hi,hf,hS1⟩
                  dsimp only at hi hf hS1 ⊢
                  rcases Nat.lt_or_ge i (zBX a 0).length with hlt | hge
                  · have hix : (List.range (zBX a 0).length)[i]? = some i:=List.getElem?_range hlt
                    obtain ⟨c,hc⟩:=zEh h (i + 1)
                    have hst:=zEi hix hf
                    rw [hc] at hst
                    obtain ⟨k,l,u,v,hka,hlb2,hu,hv,hs⟩:=zUT hst.symm
                    have hS2:=zJn _ _ _ _ _ hS1 hs
                    obtain ⟨c1,S2⟩:=c
                    have hih:=ih S1 u v c1 S2 hS1 hs
                    by_cases hc1 : c1 = 0
                    · subst hc1
                      repeat' first | apply en_n|apply zAH|apply zAB|apply zAF|apply w0|(apply zA5;exact rfl;exact rfl;first|assumption|omega)|(apply zBU;exact rfl;exact rfl;first|assumption|omega)|(apply zQn;exact hu;exact rfl;exact rfl;exact rfl;(with_reducible exact zAW))|(apply zQn;exact hv;exact rfl;exact rfl;exact rfl;(with_reducible exact zAW))|(apply zAV (hb:=zFs) (hc:=zFx a k hla);exact zAX rfl (zAX rfl zAG))|(apply zAV (hb:=zFs) (hc:=zFx b l hlb);exact zAX rfl (zAX rfl zAG))|(refine zDC (by kernel_rfl) ?_;refine zA3 [0,1] zJ6 (hih) ?_ rfl rfl (by decide) rfl rfl rfl rfl rfl rfl ?_;(repeat (refine zAL rfl ?_));exact zAS)|(apply aJ (hd:=rfl);(first|exact zAk rfl|exact Co_bb rfl rfl rfl|exact Co_nn rfl);exact rfl;(with_reducible exact zA7);assumption;omega;exact fun _=>rfl)|apply ay (hd:=rfl)|exact zAE rfl|exact zAC rfl|(apply zAg;exact rfl;(with_reducible exact zAs))|(apply zBC;exact rfl;exact rfl)|exact zAZ rfl|(apply zAK;exact rfl)|(apply zAQ;exact rfl)|apply zAI|apply zAP|refine zA6 (by kernel_rfl) (by kernel_rfl) ?_|apply eb_n
                      · omega
                      exact ⟨(i + 1,S2),⟨hlt,hc,hS2⟩,by show (zBX a 0).length - (i + 1) < _;omega,zAO (zAA rfl (zAA rfl (zAA rfl (zAA rfl (zAA rfl (zAA rfl (zAA rfl zAa))))))) (zAD rfl rfl (zAD rfl rfl zAN)) rfl rfl⟩
                    · have hr:=zP1 (fun j=>by unfold kidS;simp only [ne_eq,hc1,not_false_eq_true,if_true]) hc h
                      injection hr with h1 h2;subst h1;subst h2
                      repeat' first | apply en_n|apply zAH|apply zAB|apply zAF|apply w0|(apply zA5;exact rfl;exact rfl;first|assumption|omega)|(apply zB7;exact rfl;exact rfl;first|assumption|omega)|(apply zQn;exact hu;exact rfl;exact rfl;exact rfl;(with_reducible exact zAW))|(apply zQn;exact hv;exact rfl;exact rfl;exact rfl;(with_reducible exact zAW))|(apply zAV (hb:=zFs) (hc:=zFx a k hla);exact zAX rfl (zAX rfl zAG))|(apply zAV (hb:=zFs) (hc:=zFx b l hlb);exact zAX rfl (zAX rfl zAG))|(refine zDC (by kernel_rfl) ?_;refine zA3 [0,1] zJ6 (hih) ?_ rfl rfl (by decide) rfl rfl rfl rfl rfl rfl ?_;(repeat (refine zAL rfl ?_));exact zAS)|(apply aJ (hd:=rfl);(first|exact zAk rfl|exact Co_bb rfl rfl rfl|exact Co_nn rfl);exact rfl;(with_reducible exact zA7);assumption;omega;exact fun _=>rfl)|apply ay (hd:=rfl)|exact zAE rfl|exact zAC rfl|(apply zAg;exact rfl;(with_reducible exact zAs))|exact zAZ rfl|(apply zAK;exact rfl)|apply zAI|apply zAP|apply zAM|refine zA6 (by kernel_rfl) (by kernel_rfl) ?_|apply en_r|apply eb_r
                      exact zAq (zAO (zAA rfl zAa) (zAD rfl rfl (zAD rfl rfl zAN)) rfl rfl)
                  · have e2 : (0,S1) = (e,L'):=by rw [List.take_of_length_le (by rw [List.length_range];exact hge),h] at hf;injection hf with hf;exact hf.symm
                    injection e2 with e2 e3;subst e2;subst e3
                    repeat' first | apply en_n|apply zAH|apply zAB|apply zAF|apply w0|(apply zBq;exact rfl;exact rfl;first|assumption|omega)|apply ay (hd:=rfl)|exact zAC rfl|(apply zAQ;exact rfl)|apply zAM|apply zAt|apply en_e|apply eb_e
                    exact zAq (zAO (zAA rfl zAa) (zAD rfl rfl (zAD rfl rfl zAN)) rfl rfl)
      · cases h
    · cases h
end Go.Proofs.YtblomnkamngnbaaGreatDoor
namespace Go.Proofs.YtblomnkamngnbaaGreatDoor
def Ev (P : Nat → Prop) : Prop:=∃ n,∀ m,n ≤ m → P m
theorem Ev.and {P Q : Nat → Prop} (hp : Ev P) (hq : Ev Q) : Ev fun m=>P m ∧ Q m:=by
  obtain ⟨a,ha⟩:=hp;obtain ⟨b,hb⟩:=hq
  exact ⟨max a b,fun m hm=>⟨ha m (by omega),hb m (by omega)⟩⟩
theorem Ev.mono {P Q : Nat → Prop} (hp : Ev P) (h : ∀ m,P m → Q m) : Ev Q:=by
  obtain ⟨a,ha⟩:=hp;exact ⟨a,fun m hm=>h m (ha m hm)⟩
theorem Ev.succ {P Q : Nat → Prop} (hp : Ev P) (h : ∀ m,P m → Q (m + 1)) : Ev Q:=by
  obtain ⟨a,ha⟩:=hp
  refine ⟨a + 1,fun m hm=>?_⟩
  obtain ⟨k,rfl⟩ : ∃ k,m = k + 1:=⟨m - 1,by omega⟩
  exact h k (ha k (by omega))
theorem Ev.all {P : Nat → Prop} (h : ∀ m,P m) : Ev P:=⟨0,fun m _=>h m⟩
theorem Ev.get {P : Nat → Prop} (h : Ev P) : ∃ n,P n:=by obtain ⟨a,ha⟩:=h;exact ⟨a,ha a (Nat.le_refl _)⟩
theorem zJE {β : Type} {t : β} {x : Int} : ∀ (L : List (Int × β)) (k : Int),zBI (putA L x t) k = if x = k then some t else zBI L k
  | [],k=>by simp only [putA,zBI]
  | (a,d) :: r,k=>by
    unfold putA
    by_cases h : a = x
    · rw [if_pos h];unfold zBI
      by_cases h2 : a = k
      · rw [if_pos h2,if_pos (h ▸ h2)]
      · rw [if_neg h2,if_neg (fun e=>h2 (h.trans e)),if_neg h2]
    · rw [if_neg h];unfold zBI
      by_cases h2 : a = k
      · rw [if_pos h2,if_neg (fun e=>h (h2.trans e.symm)),if_pos h2]
      · rw [if_neg h2,zJE r k]
        by_cases h3 : x = k
        · rw [if_pos h3,if_pos h3]
        · rw [if_neg h3,if_neg h3,if_neg h2]
structure Gd (V : List Int) (t : List Nd) : Prop where
  ty : Ty t
  len : t.length ≤ 4000
  vs : ∀ x,Vin x t → x ∈ V
def Sat (σ : Int → List Nd) (L : Sto) : Prop:=∀ k t,zBI L k = some t → σ k = sub σ t
def free (V : List Int) (L : Sto) : Nat:=(V.filter fun k=>(zBI L k).isNone).length
def Rng (x : Int) : Prop:=0 ≤ x ∧ x ≤ 1048576
structure Inv (V : List Int) (L : Sto) (ρ : Int → List Nd) : Prop where
  gd : ∀ k t,zBI L k = some t → Gd V t
  eq : ∀ k t,zBI L k = some t → ρ k = sub ρ t
  dn : ∀ k t,zBI L k = some t → (∃ j,t = [vN j] ∧ j < k) ∨ ∃ h r,t = h :: r ∧ h.kind ≠ 31
  fr : ∀ k,zBI L k = none → ρ k = [vN k]
  ky : ∀ p ∈ L,p.1 ∈ V ∧ Rng p.1
  nd : (L.map Prod.fst).Nodup
  cnt : L.length + free V L ≤ V.length
theorem Ty.rng {t : List Nd} (h : Ty t) {x : Int} (hx : Vin x t) : Rng x:=by
  obtain ⟨n,hn,hk,rfl⟩:=hx;exact (h.lf n hn hk).2
def rk (ρ : Int → List Nd) (k : Int) : Nat:=(ρ k).length * 2000000 + k.toNat
section
variable {V : List Int} {L : Sto} {ρ : Int → List Nd}
theorem Inv.rk (h : Inv V L ρ) {k y : Int} {t : List Nd} (hk : zBI L k = some t) (hy : Vin y t) : rk ρ y < rk ρ k:=by
  have he:=h.eq k t hk
  have hr:=(h.gd k t hk).ty.rng hy
  unfold Rng at hr
  unfold Go.Proofs.YtblomnkamngnbaaGreatDoor.rk
  rcases h.dn k t hk with ⟨j,rfl,hj⟩ | ⟨n,r,rfl,hn⟩
  · rw [zIp] at hy;subst hy
    rw [zJi] at he;rw [he];omega
  · rw [zLy hn] at he
    rcases zBy.1 hy with ⟨h1,_⟩ | hy
    · exact absurd h1 hn
    · have:=zSR (σ:=ρ) hy
      rw [he,List.length_cons];omega
theorem Inv.ind (h : Inv V L ρ) {P : Int → Prop} (hf : ∀ k,zBI L k = none → P k) (hb : ∀ k t,zBI L k = some t → (∀ y,Vin y t → P y) → P k) : ∀ k,P k:=by
  have : ∀ n k,Go.Proofs.YtblomnkamngnbaaGreatDoor.rk ρ k < n → P k:=by
    intro n
    induction n with
    | zero=>intro k hk;omega
    | succ n ih =>
      intro k hk
      cases hl : zBI L k with
      | none=>exact hf k hl
      | some t=>exact hb k t hl fun y hy=>ih y (by have:=h.rk hl hy;omega)
  exact fun k=>this _ k (Nat.lt_succ_self _)
theorem Inv.sat (h : Inv V L ρ) : Sat ρ L:=h.eq
theorem Inv.absorb (h : Inv V L ρ) {σ : Int → List Nd} (hs : Sat σ L) : ∀ k,sub σ (ρ k) = σ k:=by
  refine h.ind (fun k hk=>by rw [h.fr k hk,zJi]) (fun k t hk ih=>?_)
  rw [h.eq k t hk,zS3,hs k t hk]
  exact zOy ih
theorem Inv.whl (h : Inv V L ρ) : ∀ k,Whl (ρ k):=by
  refine h.ind (fun k hk=>by rw [h.fr k hk];rfl) (fun k t hk ih=>?_)
  rw [h.eq k t hk];exact zMQ (h.gd k t hk).ty.lf ih (h.gd k t hk).ty.whl
theorem Inv.ty (h : Inv V L ρ) : ∀ k,Rng k → Ty (ρ k):=by
  refine h.ind (fun k hk hr=>by rw [h.fr k hk];exact zNj hr) (fun k t hk ih _=>?_)
  rw [h.eq k t hk];exact (h.gd k t hk).ty.sub fun x hx=>ih x hx ((h.gd k t hk).ty.rng hx)
theorem Inv.tyL (h : Inv V L ρ) {t : List Nd} (ht : Ty t) : Ty (sub ρ t):=ht.sub fun x hx=>h.ty x (ht.rng hx)
theorem Inv.unb (h : Inv V L ρ) : ∀ k x,Vin x (ρ k) → zBI L x = none:=by
  refine h.ind (fun k hk x hx=>by rw [h.fr k hk,zIp] at hx;subst hx;exact hk) (fun k t hk ih x hx=>?_)
  rw [h.eq k t hk,zQo] at hx
  obtain ⟨y,hy,hx⟩:=hx
  exact ih y hy x hx
theorem Inv.nil (V : List Int) : Inv V [] fun k=>[vN k] where
  gd:=fun _ _ h=>by cases h
  eq:=fun _ _ h=>by cases h
  dn:=fun _ _ h=>by cases h
  fr:=fun _ _=>rfl
  ky:=fun _ h=>by cases h
  nd:=List.nodup_nil
  cnt:=by rw [free,List.length_nil,Nat.zero_add];exact List.length_filter_le _ _
def upd (x : Int) (u : List Nd) (k : Int) : List Nd:=if k = x then u else [vN k]
def resS (n : Nat) (L : Sto) (x : Nd) : Option (List Nd):=if x.kind = 31 then (match zBI L x.num with | some u=>resF n L u | none=>some [x]) else some [x]
theorem zKm (n : Nat) (L : Sto) (t : List Nd) : resF (n + 1) L t = catO (resS n L) t:=rfl
theorem Inv.res_list (h : Inv V L ρ) : ∀ t : List Nd,Lf t → (∀ y u,Vin y t → zBI L y = some u → Ev fun m=>resF m L u = some (ρ y)) → Ev fun m=>catO (resS m L) t = some (sub ρ t)
  | [],_,_=>Ev.all fun _=>rfl
  | x :: r,hl,hy=>by
    have ih:=Inv.res_list h r (fun n hn=>hl n (List.mem_cons_of_mem _ hn)) (fun y u hv hu=>hy y u (zBy.2 (.inr hv)) hu)
    have h1 : Ev fun m=>resS m L x = some (sub1 ρ x):=by
      unfold resS sub1
      by_cases hk : x.kind = 31
      · simp only [if_pos hk]
        cases hq : zBI L x.num with
        | none =>
          have e:=(hl x List.mem_cons_self hk).1
          exact Ev.all fun _=>by simp only [h.fr x.num hq];rw [← e]
        | some u=>exact hy x.num u (zBy.2 (.inl ⟨hk,rfl⟩)) hq
      · exact Ev.all fun _=>by rw [if_neg hk,if_neg hk]
    refine (h1.and ih).mono fun m ⟨e1,e2⟩=>?_
    simp only [catO,e1,e2,zCX]
theorem Inv.res_var (h : Inv V L ρ) : ∀ k u,zBI L k = some u → Ev fun m=>resF m L u = some (ρ k):=by
  refine h.ind (fun k hk u hu=>by rw [hk] at hu;cases hu) (fun k t hk ih u hu=>?_)
  rw [hk] at hu;injection hu with hu;subst hu
  refine (h.res_list t (h.gd k t hk).ty.lf (fun y u hy hu=>ih y hy u hu)).succ fun m hm=>?_
  rw [zKm,hm,h.eq k t hk]
theorem Inv.res (h : Inv V L ρ) {t : List Nd} (ht : Ty t) : Ev fun m=>resF m L t = some (sub ρ t) :=
  (h.res_list t ht.lf fun y u _ hu=>h.res_var y u hu).succ fun m hm=>by rw [zKm,hm]
def Msz (ρ : Int → List Nd) (S : Seen) : Prop:=∀ z,0 < (zBI S z).getD 0 → (zBI S z).getD 0 = min ((ρ z).length : Int) 4001
theorem Inv.size_list (h : Inv V L ρ) : ∀ t : List Nd,Lf t → (∀ y u,Vin y t → zBI L y = some u → ∀ S,Msz ρ S → ∃ S',(Ev fun m=>zGu m L u S = some (min ((ρ y).length : Int) 4001,S')) ∧ Msz ρ S') →
    ∀ (acc : Int) (S : Seen),0 ≤ acc → acc ≤ 4001 → Msz ρ S → ∃ S',(Ev fun m=>zCB (szS m L) (acc,S) t = some (min (acc + ((sub ρ t).length : Int)) 4001,S')) ∧ Msz ρ S'
  | [],_,_,acc,S,h0,h1,hS=>⟨S,Ev.all fun _=>by rw [zJj];simp only [zCB,List.length_nil];congr 2;omega,hS⟩
  | x :: r,hl,hy,acc,S,h0,h1,hS=>by
    have ih:=Inv.size_list h r (fun n hn=>hl n (List.mem_cons_of_mem _ hn)) (fun y u hv hu=>hy y u (zBy.2 (.inr hv)) hu)
    obtain ⟨S1,e1,hS1⟩ : ∃ S1,(Ev fun m=>szS m L (acc,S) x = some (min (acc + ((sub1 ρ x).length : Int)) 4001,S1)) ∧ Msz ρ S1:=by
      unfold szS sub1
      by_cases hk : x.kind = 31
      · simp only [if_pos hk]
        cases hq : zBI L x.num with
        | none=>exact ⟨S,Ev.all fun _=>by rw [h.fr x.num hq];rfl,hS⟩
        | some u =>
          by_cases hz : (zBI S x.num).getD 0 > 0
          · refine ⟨S,Ev.all fun _=>?_,hS⟩
            simp only [if_pos hz];rw [hS x.num hz];congr 2;omega
          · obtain ⟨S2,e2,hS2⟩:=hy x.num u (zBy.2 (.inl ⟨hk,rfl⟩)) hq S hS
            refine ⟨putA S2 x.num (min ((ρ x.num).length : Int) 4001),e2.mono fun m hm=>?_,fun z hz=>?_⟩
            · simp only [if_neg hz,hm];congr 2;omega
            · rw [zJE] at hz ⊢
              split
              · rename_i e;subst e;rfl
              · rename_i e;rw [if_neg e] at hz;exact hS2 z hz
      · simp only [if_neg hk,List.length_singleton];exact ⟨S,Ev.all fun _=>rfl,hS⟩
    obtain ⟨S2,e2,hS2⟩:=ih (min (acc + ((sub1 ρ x).length : Int)) 4001) S1 (by omega) (by omega) hS1
    refine ⟨S2,(e1.and e2).mono fun m ⟨a,b⟩=>?_,hS2⟩
    simp only [zCB,a,b,zCX,List.length_append]
    congr 2;omega
theorem Inv.size_var (h : Inv V L ρ) : ∀ k u,zBI L k = some u → ∀ S,Msz ρ S → ∃ S',(Ev fun m=>zGu m L u S = some (min ((ρ k).length : Int) 4001,S')) ∧ Msz ρ S':=by
  refine h.ind (fun k hk u hu=>by rw [hk] at hu;cases hu) (fun k t hk ih u hu S hS=>?_)
  rw [hk] at hu;injection hu with hu;subst hu
  obtain ⟨S',e,hS'⟩:=h.size_list t (h.gd k t hk).ty.lf (fun y u hy hu=>ih y hy u hu) 0 S (by omega) (by omega) hS
  refine ⟨S',e.succ fun m hm=>?_,hS'⟩
  rw [zFZ,hm,h.eq k t hk];congr 2;omega
theorem Inv.size (h : Inv V L ρ) {t : List Nd} (ht : Ty t) : ∃ S',Ev fun m=>zGu m L t [] = some (min ((sub ρ t).length : Int) 4001,S'):=by
  obtain ⟨S',e,_⟩:=h.size_list t ht.lf (fun y u _ hu=>h.size_var y u hu) 0 [] (by omega) (by omega) (fun z hz=>by simp [zBI] at hz)
  refine ⟨S',e.succ fun m hm=>?_⟩
  rw [zFZ,hm];congr 2;omega
end
end Go.Proofs.YtblomnkamngnbaaGreatDoor
namespace Go.Proofs.YtblomnkamngnbaaGreatDoor
section
variable {V : List Int} {L : Sto} {ρ : Int → List Nd}
def Res (V : List Int) (L : Sto) (E : (Int → List Nd) → Prop) (r : Int × Sto) : Prop :=
  (r.1 = 0 ∧ (∃ ρ',Inv V r.2 ρ') ∧ (r.2 = L ∨ free V r.2 < free V L) ∧ ∀ σ : Int → List Nd,(∀ x,Whl (σ x)) → (Sat σ r.2 ↔ Sat σ L ∧ E σ)) ∨
  (r.1 = 91 ∧ ∀ σ : Int → List Nd,(∀ x,Whl (σ x)) → ¬ (Sat σ L ∧ E σ))
theorem Res.congr {E F : (Int → List Nd) → Prop} {r : Int × Sto} (h : Res V L E r) (he : ∀ σ : Int → List Nd,(∀ x,Whl (σ x)) → Sat σ L → (E σ ↔ F σ)) : Res V L F r:=by
  rcases h with ⟨h1,h2,h3,h4⟩ | ⟨h1,h2⟩
  · refine .inl ⟨h1,h2,h3,fun σ hw=>?_⟩
    rw [h4 σ hw]
    exact ⟨fun ⟨p,q⟩=>⟨p,(he σ hw p).1 q⟩,fun ⟨p,q⟩=>⟨p,(he σ hw p).2 q⟩⟩
  · exact .inr ⟨h1,fun σ hw ⟨p,q⟩=>h2 σ hw ⟨p,(he σ hw p).2 q⟩⟩
end
end Go.Proofs.YtblomnkamngnbaaGreatDoor
namespace Go.Proofs.YtblomnkamngnbaaGreatDoor
theorem zUA {L : List Nd} (h : okT L = true) : Ty L:=by
  obtain ⟨_,h2,h3⟩:=zD7 h
  have h4 : ∀ n ∈ L,zBT n = true:=List.all_eq_true.1 h3
  exact ⟨(zDb L).1 h2,fun n hn hk=>zN1 (h4 n hn) hk,h4⟩
theorem zUL {L : List Nd} (h : Ty L) (hl : L.length ≤ 4000) : okT L = true:=by
  rw [okT,decide_eq_true hl,(zDb L).2 h.whl,List.all_eq_true.2 h.rt];rfl
section
variable {V : List Int} {L : Sto} {ρ : Int → List Nd}
theorem Inv.var_le (h : Inv V L ρ) : ∀ k j,ρ k = [vN j] → j ≤ k:=by
  refine h.ind (fun k hk j e=>?_) (fun k t hk ih j e=>?_)
  · rw [h.fr k hk] at e
    injection e with e _;have : k = j:=congrArg Nd.num e
    omega
  · rw [h.eq k t hk] at e
    rcases h.dn k t hk with ⟨i,rfl,hi⟩ | ⟨n,r,rfl,hn⟩
    · rw [zJi] at e
      have:=ih i (zIp.2 rfl) j e;omega
    · rw [zLy hn] at e;injection e with e _;exact absurd (congrArg Nd.kind e) hn
theorem Inv.is_var (h : Inv V L ρ) (k : Int) : (∃ j,ρ k = [vN j]) ∨ ∃ n r,ρ k = n :: r ∧ n.kind ≠ 31:=by
  cases hk : zBI L k with
  | none=>exact .inl ⟨k,h.fr k hk⟩
  | some t =>
    have hg:=(h.gd k t hk).ty
    rw [h.eq k t hk]
    rcases (h.tyL hg).cases with ⟨x,e,_⟩ | ⟨n,KK,e,hn,_⟩
    · exact .inl ⟨x,e⟩
    · exact .inr ⟨n,_,e,hn⟩
theorem Inv.fix (h : Inv V L ρ) {W : List Int} {M : Sto} {τ : Int → List Nd} (h2 : Inv W M τ) (h12 : ∀ k,sub ρ (τ k) = ρ k) {k : Int} (hk : zBI L k = none) : τ k = [vN k]:=by
  have e:=h12 k
  rw [h.fr k hk] at e
  rcases h2.is_var k with ⟨j,hj⟩ | ⟨n,r,hj,hn⟩
  · rw [hj,zJi] at e
    have h3:=h.var_le j k e
    have h4:=h2.var_le k j hj
    have : j = k:=by omega
    subst this;exact hj
  · rw [hj,zLy hn] at e
    injection e with e _;exact absurd (congrArg Nd.kind e) hn
theorem Inv.one (h : Inv V L ρ) {W : List Int} {M : Sto} {τ : Int → List Nd} (h2 : Inv W M τ) (hs : ∀ σ : Int → List Nd,(∀ x,Whl (σ x)) → (Sat σ L ↔ Sat σ M)) : τ = ρ ∧ ∀ k,(zBI L k).isSome = (zBI M k).isSome:=by
  have s1 : Sat ρ M:=(hs ρ h.whl).1 h.sat
  have s2 : Sat τ L:=(hs τ h2.whl).2 h2.sat
  have a1:=h2.absorb s1
  have a2:=h.absorb s2
  have e : ∀ k,τ k = ρ k:=fun k=>by
    cases hk : zBI L k with
    | none=>rw [h.fr k hk];exact h.fix h2 a1 hk
    | some t =>
      rw [← a2 k]
      have ht : Ty (ρ k):=by rw [h.eq k t hk];exact h.tyL (h.gd k t hk).ty
      exact zUD ht.lf fun x hx=>h.fix h2 a1 (h.unb k x hx)
  refine ⟨funext e,fun k=>?_⟩
  have no : ∀ {V : List Int} {L : Sto} {ρ : Int → List Nd},Inv V L ρ → ∀ k t,zBI L k = some t → ρ k ≠ [vN k]:=fun {V L ρ} h k t hk c=>by
    have:=h.unb k k (by rw [c];exact zIp.2 rfl)
    rw [hk] at this;cases this
  cases hk : zBI L k with
  | none =>
    cases hm : zBI M k with
    | none=>rfl
    | some t=>exact absurd ((e k).trans (h.fr k hk)) (no h2 k t hm)
  | some t =>
    cases hm : zBI M k with
    | none=>exact absurd ((e k).symm.trans (h2.fr k hm)) (no h k t hk)
    | some u=>rfl
end
end Go.Proofs.YtblomnkamngnbaaGreatDoor
namespace Go.Proofs.YtblomnkamngnbaaGreatDoor
theorem zOc {acc : List Int} (h : acc.Nodup) (n : Nd) : (addV acc n).Nodup:=by
  unfold addV
  split
  · rename_i c
    exact List.nodup_append.2 ⟨h,by simp,fun a ha b hb e=>by rw [List.mem_singleton] at hb;subst hb;subst e;exact c.2 ha⟩
  · exact h
theorem zJP : ∀ (L : List Nd) {acc : List Int},acc.Nodup → (L.foldl addV acc).Nodup
  | [],_,h=>h
  | n :: L,_,h=>zJP L (zOc h n)
theorem zHn : ∀ (L : List Nd) {acc : List Int} {x : Int},x ∈ L.foldl addV acc ↔ x ∈ acc ∨ Vin x L
  | [],acc,x=>by simp [zHJ]
  | n :: L,acc,x=>by
    rw [List.foldl_cons,zHn L,zBy]
    unfold addV
    split
    · rename_i c
      rw [List.mem_append,List.mem_singleton]
      constructor
      · rintro ((h | h) | h)
        · exact .inl h
        · exact .inr (.inl ⟨c.1,h.symm⟩)
        · exact .inr (.inr h)
      · rintro (h | ⟨_,h⟩ | h)
        · exact .inl (.inl h)
        · exact .inl (.inr h.symm)
        · exact .inr h
    · rename_i c
      constructor
      · rintro (h | h)
        · exact .inl h
        · exact .inr (.inr h)
      · rintro (h | ⟨h1,h2⟩ | h)
        · exact .inl h
        · exact .inl (Classical.byContradiction fun d=>c ⟨h1,by rw [h2];exact d⟩)
        · exact .inr h
theorem zH0 {L : List Nd} {x : Int} : x ∈ zB3 L ↔ Vin x L:=by rw [zB3,zHn];simp
theorem zFz (L : List Nd) : (zB3 L).Nodup:=zJP L List.nodup_nil
def ren (f : Int → Int) (n : Nd) : Nd:=if n.kind = 31 then { n with num:=f n.num } else n
theorem zHf (f : Int → Int) (n : Nd) : (ren f n).kind = n.kind:=by unfold ren;split <;> rfl
theorem zNW {f : Int → Int} : ∀ (L : List Nd) (acc : List Int),(∀ x y,(x ∈ acc ∨ Vin x L) → (y ∈ acc ∨ Vin y L) → f x = f y → x = y) → (L.map (ren f)).foldl addV (acc.map f) = (L.foldl addV acc).map f
  | [],acc,_=>rfl
  | n :: L,acc,hi=>by
    have hstep : addV (acc.map f) (ren f n) = (addV acc n).map f:=by
      unfold addV
      by_cases hk : n.kind = 31
      · have hn : (ren f n).num = f n.num:=by rw [ren,if_pos hk]
        by_cases hm : n.num ∈ acc
        · rw [if_neg (fun c=>c.2 (by rw [hn];exact List.mem_map.2 ⟨_,hm,rfl⟩)),if_neg (fun c=>c.2 hm)]
        · have hm2 : (ren f n).num ∉ acc.map f:=fun c=>by
            rw [hn] at c
            obtain ⟨y,hy,e⟩:=List.mem_map.1 c
            have:=hi y n.num (.inl hy) (.inr (zBy.2 (.inl ⟨hk,rfl⟩))) e
            exact hm (this ▸ hy)
          rw [if_pos ⟨by rw [zHf];exact hk,hm2⟩,if_pos ⟨hk,hm⟩,List.map_append,hn];rfl
      · rw [if_neg (fun c=>hk (by rw [← zHf f n];exact c.1)),if_neg (fun c=>hk c.1)]
    rw [List.map_cons,List.foldl_cons,List.foldl_cons,hstep]
    have mem : ∀ x,(x ∈ addV acc n ∨ Vin x L) → (x ∈ acc ∨ Vin x (n :: L)):=fun x h=>by
      rw [← zHn (L:=L)] at h;rw [← zHn (L:=n :: L)];exact h
    exact zNW L (addV acc n) fun x y hx hy e=>hi x y (mem x hx) (mem y hy) e
theorem zK7 {A : List Int} (hn : A.Nodup) {i : Nat} {x : Int} (h : A[i]? = some x) : idxF A x = i:=by
  refine zJ1 (fun j hj c=>?_) h
  have hi : i < A.length:=(List.getElem?_eq_some_iff.1 h).1
  obtain ⟨_,h1⟩:=List.getElem?_eq_some_iff.1 h
  obtain ⟨hj2,h2⟩:=List.getElem?_eq_some_iff.1 c
  have:=(List.getElem_inj hn).1 (h2.trans h1.symm)
  omega
theorem zTJ {A : List Int} (hn : A.Nodup) {x y : Int} (hx : x ∈ A) (hy : y ∈ A) (h : idxF A x = idxF A y) : x = y:=by
  obtain ⟨i,hi⟩:=List.mem_iff_getElem?.1 hx
  obtain ⟨j,hj⟩:=List.mem_iff_getElem?.1 hy
  rw [zK7 hn hi,zK7 hn hj] at h
  have : i = j:=by omega
  subst this
  rw [hi] at hj;injection hj
def upto (n : Nat) : List Int:=(List.range n).map fun (i : Nat)=>(i : Int)
theorem zNv (n : Nat) : (upto n).Nodup:=by
  have:=(List.nodup_range (n:=n))
  rw [upto,List.Nodup,List.pairwise_map]
  exact this.imp fun h e=>h (by omega)
theorem zTK {A : List Int} (hn : A.Nodup) : A.map (idxF A) = upto A.length:=by
  refine List.ext_getElem? fun i=>?_
  rw [List.getElem?_map,upto,List.getElem?_map]
  by_cases hi : i < A.length
  · rw [List.getElem?_range hi,List.getElem?_eq_getElem hi,Option.map_some,Option.map_some,zK7 hn (List.getElem?_eq_getElem hi)]
  · rw [List.getElem?_eq_none (by omega),List.getElem?_eq_none (by simp;omega)];rfl
theorem zQM {L : List Nd} (h : okT L = true) : okT (zCm L) = true ∧ zCh (zCm L) = upto (zCh L).length ∧ zCm (zCm L) = zCm L ∧ (zCm L).length = L.length:=by
  have ty:=zUA h
  have hc : zCm L = L.map (ren (idxF (zB3 L))):=by rw [zCm,if_pos h];rfl
  have hv : zCh L = zB3 L:=by rw [zCh,if_pos h]
  have hlen : (zCm L).length = L.length:=by rw [hc,List.length_map]
  have hvl:=zFB L []
  rw [show L.foldl addV [] = zB3 L from rfl,List.length_nil,Nat.zero_add] at hvl
  have hl:=(zD7 h).1
  have hg : zB3 (zCm L) = upto (zB3 L).length:=by
    rw [hc, ← zTK (zFz L)]
    refine zNW L [] fun x y hx hy e=>?_
    simp only [List.not_mem_nil,false_or] at hx hy
    exact zTJ (zFz L) (zH0.2 hx) (zH0.2 hy) e
  have hidx : ∀ n ∈ L,n.kind = 31 → ∃ i : Nat,i < (zB3 L).length ∧ idxF (zB3 L) n.num = i:=fun n hn hk=>by
    obtain ⟨i,hi⟩:=List.mem_iff_getElem?.1 (zH0.2 (⟨n,hn,hk,rfl⟩ : Vin n.num L))
    exact ⟨i,(List.getElem?_eq_some_iff.1 hi).1,zK7 (zFz L) hi⟩
  have hok : okT (zCm L) = true:=by
    refine zUL ?_ (by omega)
    have e : zCm L = sub (fun x=>[vN (idxF (zB3 L) x)]) L:=by
      rw [hc,sub]
      have : ∀ n ∈ L,sub1 (fun x=>[vN (idxF (zB3 L) x)]) n = [ren (idxF (zB3 L)) n]:=fun n hn=>by
        unfold sub1 ren
        by_cases hk : n.kind = 31
        · rw [if_pos hk,if_pos hk]
          have e:=(ty.lf n hn hk).1
          rw [e];rfl
        · rw [if_neg hk,if_neg hk]
      clear hc hlen hg hidx hvl hv h ty hl
      revert this
      generalize zB3 L = vs
      intro this
      induction L with
      | nil=>rfl
      | cons n r ih=>rw [List.flatMap_cons,this n List.mem_cons_self,List.map_cons,ih (fun m hm=>this m (List.mem_cons_of_mem _ hm))];rfl
    rw [e]
    refine ty.sub fun x hx=>?_
    obtain ⟨n,hn,hk,rfl⟩:=hx
    obtain ⟨i,hi,e⟩:=hidx n hn hk
    exact zNj (by rw [e];omega)
  refine ⟨hok,by rw [zCh,if_pos hok,hg,hv],?_,hlen⟩
  have h2 : zCm (zCm L) = (zCm L).map (ren (idxF (upto (zB3 L).length))):=by
    rw [← hg];conv=>lhs;rw [zCm,if_pos hok]
    rfl
  rw [h2,hc,List.map_map]
  refine List.map_congr_left fun n hn=>?_
  show ren _ (ren _ n) = ren _ n
  by_cases hk : n.kind = 31
  · obtain ⟨i,hi,e⟩:=hidx n hn hk
    have e1 : ren (idxF (zB3 L)) n = { n with num:=(i : Int) }:=by rw [ren,if_pos hk,e]
    have e2 : idxF (upto (zB3 L).length) (i : Int) = i:=zK7 (zNv _) (by rw [upto,List.getElem?_map,List.getElem?_range hi];rfl)
    rw [e1,ren,if_pos (show ({ n with num:=(i : Int) } : Nd).kind = 31 from hk)]
    show ({ n with num:=idxF (upto (zB3 L).length) (i : Int) } : Nd) = _
    rw [e2]
  · rw [ren,if_neg (by rw [zHf];exact hk)]
end Go.Proofs.YtblomnkamngnbaaGreatDoor
