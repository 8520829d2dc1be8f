/- Texts of this claim, merged: LexA, LexB, LexC, LexD. -/
import Derived.Lib.IndexAny
import Derived.Lib.IndexLaws
import Derived.Test.YtblomnkamngnbaaGreatDoorMAC
namespace Go.Proofs.YtblomnkamngnbaaGreatDoor
open Go.Sx
attribute [local irreducible] zAO Program.underlying Ylds zA3 alex zBY zBN awp zAm zBT zBe zAx zBA zBP zA2 zBR zBX zBa zBq
abbrev u8 (c : UInt8) : D:=.val (.int .u8 (c.toNat : Int))
theorem zD6 {a b : Bool} (h : a = b) : D.val (Value.bool a) = bl b:=by subst h;rfl
theorem zDm {a b : Int} (h : a = b) : D.val (Value.int .i64 a) = i64 b:=by subst h;rfl
theorem zNV (c : UInt8) : zAm Tryz.prog 88 [u8 c] (bl (zDt c)):=by
  refine zAd Tryz.func88 rfl Tryz.ntmps88 Tryz.results88 rfl ?_
  intro wb St0
  repeat' first | apply en_n|apply zAH|apply zAC|apply zAF|apply w0|(apply k1u (hd:=rfl);exact rfl;exact rfl)|apply ay (hd:=rfl)|exact zAE rfl|exact zAD rfl|exact zI7 rfl rfl|exact zAq rfl rfl|exact zAo rfl rfl|(apply w1;exact rfl;exact rfl)|(apply gD;exact rfl;exact rfl;(intro hb);rotate_left;(intro hb);rotate_right)|apply zAN|apply zAP|(apply res1;exact rfl)
  all_goals exact zD6 (by simp only [zDt];first | (rw [decide_eq_decide];omega) | (symm;rw [decide_eq_false_iff_not];omega))
theorem zN6 (c : UInt8) : zAm Tryz.prog 89 [u8 c] (bl (zDY c)):=by
  refine zAd Tryz.func89 rfl Tryz.ntmps89 Tryz.results89 rfl ?_
  intro wb St0
  repeat' first | apply en_n|apply zAH|apply zAC|apply zAF|apply w0|(apply k1u (hd:=rfl);exact rfl;exact rfl)|apply ay (hd:=rfl)|exact zAE rfl|exact zAD rfl|exact zI7 rfl rfl|exact zAq rfl rfl|exact zAo rfl rfl|(apply w1;exact rfl;exact rfl)|(apply gD;exact rfl;exact rfl;(intro hb);rotate_left;(intro hb);rotate_right)|apply zAN|apply zAP|(apply res1;exact rfl)
  all_goals exact zD6 (by simp only [zDY];first | (rw [decide_eq_decide];omega) | (symm;rw [decide_eq_false_iff_not];omega))
theorem zS4 (c : UInt8) : zAm Tryz.prog 122 [u8 c] (bl (zGP c)):=by
  refine zAd Tryz.func122 rfl Tryz.ntmps122 Tryz.results122 rfl ?_
  intro wb St0
  repeat' first | apply en_n|apply zAH|apply zAC|apply zAF|apply w0|(apply k1u (hd:=rfl);exact rfl;exact rfl)|apply ay (hd:=rfl)|exact zAE rfl|exact zAD rfl|exact zI7 rfl rfl|exact zAq rfl rfl|exact zAo rfl rfl|(apply w1;exact rfl;exact rfl)|(apply gD;exact rfl;exact rfl;(intro hb);rotate_left;(intro hb);rotate_right)|apply zAN|apply zAP|(apply res1;exact rfl)
  all_goals exact zD6 (by simp only [zGP];first | (rw [decide_eq_decide];omega) | (symm;rw [decide_eq_false_iff_not];omega))
theorem zVD (c d : UInt8) : (c == d) = decide ((c.toNat : Int) = (d.toNat : Int)):=by
  cases h : c == d with
  | true=>rw [eq_of_beq h];simp
  | false =>
    symm;rw [decide_eq_false_iff_not];intro h2
    have : c = d:=UInt8.toNat_inj.1 (by omega)
    rw [this] at h;simp at h
theorem zSf (c : UInt8) : zAm Tryz.prog 86 [u8 c] (bl (zFA c)):=by
  refine zAd Tryz.func86 rfl Tryz.ntmps86 Tryz.results86 rfl ?_
  intro wb St0
  repeat' first | apply en_n|apply zAH|apply zAC|apply zAF|apply w0|(apply k0u (hd:=rfl);exact rfl;exact rfl)|(apply zAX (hb:=zNz) (hc:=zNV c))|(apply zAX (hb:=zN2) (hc:=zN6 c))|(apply zAX (hb:=zSr) (hc:=zS4 c))|apply ay (hd:=rfl)|exact zAE rfl|exact zAD rfl|exact zD7 rfl rfl|exact zAq rfl rfl|exact zAo rfl rfl|(apply w1;exact rfl;exact rfl)|(apply gD;exact rfl;exact rfl;(intro hb);rotate_left;(intro hb);rotate_right)|apply zAN|apply zAP|(apply res1;exact rfl)|exact zAG|refine zAZ rfl ?_
  all_goals refine zD6 ?_
  all_goals simp only [zFA,zDt,zDY,zGP,zVD, ← Bool.decide_or,show ((95 : UInt8).toNat : Int) = 95 from rfl,show ((39 : UInt8).toNat : Int) = 39 from rfl] at *
  all_goals first | (rw [decide_eq_decide];omega) | (symm;rw [decide_eq_true_eq];omega)
theorem zVX (c : UInt8) : decide (Lib.indexByte signL c ≥ 0) = zDT c:=by rw [zDT,Lib.contains_iff_indexByte]
theorem zUI (c : UInt8) : zAm Tryz.prog 91 [u8 c] (bl (zDT c)):=by
  refine zAd Tryz.func91 rfl Tryz.ntmps91 Tryz.results91 rfl ?_
  intro wb St0
  repeat' first | apply en_n|apply zAH|apply zAC|apply zAF|apply w0|(apply zAX (hb:=zLi) (hc:=zMO signL c))|apply ay (hd:=rfl)|exact zAE rfl|exact zAD rfl|exact zFp rfl rfl|apply zAN|apply zAP|(apply res1;exact rfl)|exact zAG|refine zAZ rfl ?_
  exact zD6 (zVX c)
end Go.Proofs.YtblomnkamngnbaaGreatDoor
namespace Go.Proofs.YtblomnkamngnbaaGreatDoor
open Go.Sx
attribute [local irreducible] zAO Program.underlying Ylds zA3 alex zBY zBN awp zAm zBT zBe zAx zBA zBP zA2 zBR zBX zBa zBq
def isK (c : UInt8) : Int:=if zDT c then 5 else if zDt c then 1 else if zDY c then 2 else if zGP c then 3 else if c = 95 ∨ c = 39 then 4 else 0
theorem zSB {c : UInt8} {i : Nat} (h : i < 16) (h1 : ((signL.getD i 0).toNat : Int) = (c.toNat : Int)) : zDT c = true:=by
  have : signL.getD i 0 = c:=UInt8.toNat_inj.1 (by omega)
  have h2 : i < signL.length:=h
  rw [zDT, ← this,List.getD_eq_getElem?_getD,List.getElem?_eq_getElem h2]
  simp
theorem zK9 {c : UInt8} (h : ∀ j,j < 16 → (signL.getD j 0) ≠ c) : zDT c = false:=by
  cases h2 : zDT c with
  | false=>rfl
  | true =>
    rw [zDT] at h2
    obtain ⟨j,hj,e⟩:=List.getElem_of_mem (List.contains_iff_mem.1 h2)
    refine absurd ?_ (h j hj)
    rw [List.getD_eq_getElem?_getD,List.getElem?_eq_getElem hj];exact e
set_option maxHeartbeats 4000000 in
theorem zVW (c : UInt8) : zAm Tryz.prog 78 [u8 c] (i64 (isK c)):=by
  refine zAd Tryz.func78 rfl Tryz.ntmps78 Tryz.results78 rfl ?_
  intro wb St0
  repeat' first | apply en_n|apply zAH|apply zAC|apply zAF|apply w0|apply ay (hd:=rfl)|exact zAD rfl|apply zAJ
  refine zAs (α:=Nat) (fun i=>i ≤ 16 ∧ ∀ j,j < i → signL.getD j 0 ≠ c) (fun i=>[(0,.d (u8 c)),(3,.d (str signL)),(4,.d (i64 (i : Int)))]) (fun _=>[]) (fun i=>16 - i) 0 ⟨Nat.zero_le _,by omega⟩
      (zAL (zAA rfl (zAA rfl (zAA rfl zAW))) zAK rfl rfl) ?_
  rintro i ⟨hi1,hi2⟩
  have hL : signL.length = 16:=rfl
  repeat' first | apply en_n|apply zAH|apply zAC|apply zAF|apply w0|(apply k1u (hd:=rfl);exact rfl;exact rfl)|(apply k0u (hd:=rfl);exact rfl;exact rfl)|(apply zC2;exact rfl;with_reducible exact ustr)|(apply zKq;exact rfl;exact rfl;with_reducible exact ustr;(first|assumption|omega))|apply ay (hd:=rfl)|exact zAE rfl|exact zAD rfl|exact zDG rfl rfl|exact zI7 rfl rfl|exact zFp rfl rfl|exact zD7 rfl rfl|(apply zBG;exact rfl;exact rfl)|exact zAq rfl rfl|exact zAo rfl rfl|(apply w1;exact rfl;exact rfl)|(apply gD;exact rfl;exact rfl;(intro hb);rotate_left;(intro hb);rotate_right)|(apply zA1;exact rfl;(intro hb);rotate_left;(intro hb);rotate_right)|(apply zAQ;exact rfl)|(apply zAU;exact rfl)|apply zAJ|apply zAT|apply zAN|apply zAu|apply en_r|apply en_e|apply eb_n|apply eb_r|apply eb_e|apply zAP|(apply res1;exact rfl)
  · rename_i h1;rw [hL] at h1
    exact zDm (by rw [isK,zSB (by omega) hb,if_pos rfl])
  · omega
  · rename_i h1;rw [hL] at h1
    refine ⟨i + 1,⟨by omega,fun j hj=>?_⟩,by omega,zAL (zAA rfl (zAA rfl (zAA rfl zAW))) zAK rfl rfl⟩
    rcases Nat.lt_or_ge j i with h | h
    · exact hi2 j h
    · rw [show j = i by omega];rintro rfl;exact hb rfl
  all_goals
    have hs : zDT c = false:=zK9 fun j hj=>hi2 j (by omega)
    have e95 : c = 95 ↔ (c.toNat : Int) = 95:=by rw [← UInt8.toNat_inj];show _ = 95 ↔ _;omega
    have e39 : c = 39 ↔ (c.toNat : Int) = 39:=by rw [← UInt8.toNat_inj];show _ = 39 ↔ _;omega
    refine zDm ?_
    rw [isK,hs,if_neg (by decide)]
    simp only [zDt,zDY,zGP,decide_eq_true_eq,e95,e39]
    repeat' split
    all_goals first | rfl | omega
end Go.Proofs.YtblomnkamngnbaaGreatDoor
namespace Go.Proofs.YtblomnkamngnbaaGreatDoor
open Go.Sx
attribute [local irreducible] zAO Program.underlying Ylds zA3 alex zBY zBN awp zAm zBT zBe zAx zBA zBP zA2 zBR zBX zBa zBq
theorem zHs (p : UInt8 → Bool) : ∀ (s : List UInt8) (n : Nat),n ≤ s.length → (∀ j,j < n → p (s.getD j 0) = true) → (n = s.length ∨ p (s.getD n 0) = false) → zJA p s = n
  | [],n,h,_,_=>by rw [zJA];simp at h;omega
  | c :: s,n,h,h1,h2=>by
    rw [zJA]
    cases n with
    | zero =>
      have h2 : p c = false:=by
        rcases h2 with h2 | h2
        · simp at h2
        · exact h2
      rw [h2];rfl
    | succ n =>
      have h3 : p c = true:=h1 0 (by omega)
      rw [if_pos h3,zHs p s n (by simpa using h) (fun j hj=>h1 (j + 1) (by omega)) (by simpa using h2)]
theorem getB {l : List UInt8} {i : Nat} (h : i < (⟨l.toArray⟩ : ByteArray).size) : (⟨l.toArray⟩ : ByteArray)[i]'h = l.getD i 0:=by
  have hlt : i < l.length:=by rw [zC7] at h;exact h
  rw [List.getD_eq_getElem?_getD,List.getElem?_eq_getElem hlt];rfl
theorem zQ8 {l : List UInt8} {i : Nat} (h : i < l.length) (h1 : ¬ ((Utf8.decode ⟨l.toArray⟩ i).1 : Int) > 126) : (Utf8.decode ⟨l.toArray⟩ i).2 = 1 ∧ (Utf8.decode ⟨l.toArray⟩ i).1 = (l.getD i 0).toNat ∧ (l.getD i 0).toNat ≤ 126:=by
  have hs : i < (⟨l.toArray⟩ : ByteArray).size:=by rw [zC7];exact h
  rcases Nat.lt_or_ge ((⟨l.toArray⟩ : ByteArray)[i]'hs).toNat 128 with h3 | h3
  · have e:=decode_ascii ⟨l.toArray⟩ i hs h3
    rw [getB hs] at e
    rw [e] at h1 ⊢
    dsimp only at h1
    exact ⟨rfl,rfl,by omega⟩
  · have:=(decode_high ⟨l.toArray⟩ i hs h3).1
    omega
theorem zPA {l : List UInt8} {i : Nat} (h : i < l.length) (h1 : ((Utf8.decode ⟨l.toArray⟩ i).1 : Int) > 126) : (l.getD i 0).toNat > 126:=by
  have hs : i < (⟨l.toArray⟩ : ByteArray).size:=by rw [zC7];exact h
  rcases Nat.lt_or_ge ((⟨l.toArray⟩ : ByteArray)[i]'hs).toNat 128 with h3 | h3
  · have e:=decode_ascii ⟨l.toArray⟩ i hs h3
    rw [getB hs] at e
    rw [e] at h1
    dsimp only at h1
    omega
  · rw [getB hs] at h3
    omega
def allF (p : UInt8 → Bool) (s : List UInt8) : Bool:=s.all p && !s.isEmpty
theorem zRS {p : UInt8 → Bool} {s : List UInt8} {i : Nat} (h : i < s.length) (h1 : p (s.getD i 0) = false) : allF p s = false:=by
  have : s.all p = false:=by
    rw [List.all_eq_false]
    refine ⟨s.getD i 0,?_,by rw [h1];decide⟩
    rw [List.getD_eq_getElem?_getD,List.getElem?_eq_getElem h];simp
  rw [allF,this];rfl
theorem zVy {p : UInt8 → Bool} {s : List UInt8} (h : ∀ j,j < s.length → p (s.getD j 0) = true) : allF p s = decide (s ≠ []):=by
  have : s.all p = true:=by
    rw [List.all_eq_true];intro x hx
    obtain ⟨j,hj,rfl⟩:=List.getElem_of_mem hx
    have:=h j hj
    rwa [List.getD_eq_getElem?_getD,List.getElem?_eq_getElem hj] at this
  rw [allF,this]
  cases s <;> simp
theorem zTv (f : FuncId) (p : UInt8 → Bool) (hb : zAO Tryz.prog f = true) (hp : ∀ c,zAm Tryz.prog f [u8 c] (bl (p c))) (hp2 : ∀ c,c.toNat > 126 → p c = false) (s : List UInt8) :
    zBA Tryz.prog 85 [.d (str s),.clo f []] [] (bl (allF p s)):=by
  have hbf:=hb;clear hb
  refine zBw Tryz.func85 rfl Tryz.ntmps85 Tryz.results85 rfl ?_
  intro wb St0
  repeat' first | apply en_n|apply zAH|apply zAC|apply zAF|apply w0|(apply zV1 (hd:=rfl) (hro:=rfl);exact rfl;with_reducible exact ustr)|apply ay (hd:=rfl)|exact zAE rfl|exact zAD rfl|apply zAJ
  refine zAs (α:=Nat) (fun i=>i ≤ s.length ∧ ∀ j,j < i → p (s.getD j 0) = true)
    (fun i=>[(0,.d (str s)),(1,.clo f []),(8,.ptr 0 0)]) (fun i=>[.iter ⟨s.toArray⟩ i]) (fun i=>s.length - i) 0 ⟨Nat.zero_le _,by omega⟩
      (zAL (zAA rfl (zAA rfl (zAA rfl zAW))) (zAB rfl rfl zAK) rfl rfl) ?_
  rintro i ⟨hi1,hi2⟩
  repeat' first | apply en_n|apply zAH|apply zAC|apply zAF|apply w0|(apply k0u (hd:=rfl);exact rfl;exact rfl)|exact zJn rfl rfl|(apply zWi (hd:=rfl) (hro:=rfl);exact rfl;exact rfl;(intro hb);rotate_left;(intro hb);rotate_right)|exact zA8 rfl|(apply zON;exact rfl;with_reducible exact si32;with_reducible exact uu8)|(apply zML (hb:=hbf) (hc:=hp (s.getD i 0));exact rfl)|apply ay (hd:=rfl)|exact zAE rfl|exact zAD rfl|exact zHp rfl rfl|exact zCS rfl|exact zAq rfl rfl|exact zAo rfl rfl|exact zBM rfl rfl|(apply w1;exact rfl;exact rfl)|(apply gD;exact rfl;exact rfl;(intro hb);rotate_left;(intro hb);rotate_right)|(apply zAQ;exact rfl)|(apply zAU;exact rfl)|(apply zDB;exact rfl;(intro hb);rotate_left;(intro hb);rotate_right)|apply zAJ|apply zAT|apply zAN|apply zAu|apply en_r|apply en_e|apply eb_n|apply eb_r|apply eb_e|apply zAP|(apply res1;exact rfl)
  · rename_i h0
    have hlt : i < s.length:=by rw [zC7] at h0;exact h0
    exact zD6 (zRS hlt (hp2 _ (zPA hlt hb))).symm
  · rename_i h0
    have hlt : i < s.length:=by rw [zC7] at h0;exact h0
    obtain ⟨_,e,hl⟩:=zQ8 hlt hb
    refine zAZ ?_ zAG
    show SV.d (D.val (.int .u8 (IntKind.u8.wrap (((Utf8.decode ⟨s.toArray⟩ i).1 : Nat) : Int)))) = _
    rw [e,zT7,show (((s.getD i 0).toNat : Nat) : Int) % 256 = ((s.getD i 0).toNat : Int) by omega]
  · rename_i h0 h1
    have hlt : i < s.length:=by rw [zC7] at h0;exact h0
    exact zD6 (zRS hlt (by simpa using hb)).symm
  · rename_i h0 h1
    have hlt : i < s.length:=by rw [zC7] at h0;exact h0
    obtain ⟨e1,_,hl⟩:=zQ8 hlt h1
    refine ⟨i + 1,⟨by omega,fun j hj=>?_⟩,by omega,zAL (zAA rfl (zAA rfl (zAA rfl zAW))) (zAB rfl (by rw [e1]) zAK) rfl rfl⟩
    rcases Nat.lt_or_ge j i with h | h
    · exact hi2 j h
    · rw [show j = i by omega];simpa using hb
  · have hge : ¬ i < s.length:=by rw [zC7] at hb;exact hb
    exact zD6 (zVy fun j hj=>hi2 j (by omega)).symm
end Go.Proofs.YtblomnkamngnbaaGreatDoor
namespace Go.Proofs.YtblomnkamngnbaaGreatDoor
open Go.Sx
attribute [local irreducible] zAO Program.underlying Ylds zA3 alex zBY zBN awp zAm zBT zBe zAx zBA zBP zA2 zBR zBX zBa zBq
def btw (lo hi : Int) (c : UInt8) : Bool:=decide (lo ≤ isK c ∧ isK c ≤ hi)
theorem zIt (s : List UInt8) (a j : Nat) : (s.drop a).getD j 0 = s.getD (a + j) 0:=by
  rw [List.getD_eq_getElem?_getD,List.getD_eq_getElem?_getD,List.getElem?_drop]
theorem zKz (s : List UInt8) (at_ : Nat) (lo hi : Int) (hs : s.length ≤ 9223372036854775807) (ha : at_ ≤ s.length) :
    zAm Tryz.prog 79 [str s,i64 (at_ : Int),i64 lo,i64 hi] (i64 ((at_ + zJA (btw lo hi) (s.drop at_) : Nat) : Int)):=by
  refine zAd Tryz.func79 rfl Tryz.ntmps79 Tryz.results79 rfl ?_
  intro wb St0
  repeat' first | apply en_n|apply zAH|apply zAC|apply zAF|apply w0|apply ay (hd:=rfl)|exact zAD rfl|apply zAJ
  refine zAs (α:=Nat) (fun i=>at_ + i ≤ s.length ∧ ∀ j,j < i → btw lo hi ((s.drop at_).getD j 0) = true) (fun i=>[(0,.d (str s)),(1,.d (i64 ((at_ + i : Nat) : Int))),(2,.d (i64 lo)),(3,.d (i64 hi))]) (fun _=>[]) (fun i=>s.length - (at_ + i)) 0 ⟨by omega,by omega⟩
      (zAL (zAA rfl (zAA rfl (zAA rfl (zAA rfl zAW)))) zAK rfl rfl) ?_
  rintro i ⟨hi1,hi2⟩
  repeat' first | apply en_n|apply zAH|apply zAC|apply zAF|apply w0|(apply k1u (hd:=rfl);exact rfl;exact rfl)|(apply zC2;exact rfl;with_reducible exact ustr)|(apply zKq;exact rfl;exact rfl;with_reducible exact ustr;(first|assumption|omega))|(apply zAX (hb:=zVc) (hc:=zVW (s.getD (at_ + i) 0)))|apply ay (hd:=rfl)|exact zAE rfl|exact zAD rfl|exact zDG rfl rfl|exact zI7 rfl rfl|exact zFp rfl rfl|(apply zBG;exact rfl;exact rfl)|exact zAq rfl rfl|exact zAo rfl rfl|(apply w1;exact rfl;exact rfl)|(apply gD;exact rfl;exact rfl;(intro hb);rotate_left;(intro hb);rotate_right)|(apply zA1;exact rfl;(intro hb);rotate_left;(intro hb);rotate_right)|(apply zAU;exact rfl)|apply zAJ|apply zAT|apply zAN|apply zAu|apply en_e|apply eb_n|apply eb_e|apply zAP|(apply res1;exact rfl)|exact zAG|refine zAZ rfl ?_
  · omega
  · rename_i h1 h2
    have hb : btw lo hi ((s.drop at_).getD i 0) = true:=by
      rw [zIt,btw,decide_eq_true_eq];exact ⟨h2,hb⟩
    refine ⟨i + 1,⟨by omega,fun j hj=>?_⟩,by omega,zAL (zAA rfl (Le_d rfl (by rw [Int.natCast_add,Int.natCast_add,Int.natCast_add,Int.add_assoc];rfl) (zAA rfl (zAA rfl zAW)))) zAK rfl rfl⟩
    rcases Nat.lt_or_ge j i with h | h
    · exact hi2 j h
    · rw [show j = i by omega];exact hb
  · rename_i h1 h2
    have hb : btw lo hi ((s.drop at_).getD i 0) = false:=by
      rw [zIt,btw,decide_eq_false_iff_not];exact fun h=>hb h.2
    rw [zHs _ _ i (by rw [List.length_drop];omega) hi2 (.inr hb)]
  · rename_i h1
    have hb : btw lo hi ((s.drop at_).getD i 0) = false:=by
      rw [zIt,btw,decide_eq_false_iff_not];exact fun h=>hb h.1
    rw [zHs _ _ i (by rw [List.length_drop];omega) hi2 (.inr hb)]
  · rw [zHs _ _ i (by rw [List.length_drop];omega) hi2 (.inl (by rw [List.length_drop];omega))]
end Go.Proofs.YtblomnkamngnbaaGreatDoor
