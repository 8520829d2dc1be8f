/- Texts of this claim, merged: LexA, LexB, LexC, LexD. -/
import Derived.Lib.IndexAny
import Derived.Lib.IndexLaws
import Derived.Test.YtblomnkamngnbaaGreatDoorMAF
namespace Go.Proofs.YtblomnkamngnbaaGreatDoor
open Go.Sx
attribute [local irreducible] zAT Program.underlying Ylds zBA alex zBe zBP awp zAj zBZ zBk zA2 zBH zBR zA8 zBV zBb zBf zBu
abbrev u8 (c : UInt8) : D:=.val (.int .u8 (c.toNat : Int))
theorem zDB {a b : Bool} (h : a = b) : D.val (Value.bool a) = bl b:=by subst h;rfl
theorem zCr {a b : Int} (h : a = b) : D.val (Value.int .i64 a) = i64 b:=by subst h;rfl
theorem zMt (c : UInt8) : zAj Tryz.prog 88 [u8 c] (bl (zES c)):=by
  refine zAd Tryz.func88 rfl Tryz.ntmps88 Tryz.results88 rfl ?_
  intro wb St0
  repeat' first | apply en_n|apply zAH|apply zAB|apply zAF|apply w0|(apply k1u (hd:=rfl);exact rfl;exact rfl)|apply ay (hd:=rfl)|exact zAE rfl|exact zAC rfl|exact zHH rfl rfl|exact zAi rfl rfl|exact zAh rfl rfl|(apply w1;exact rfl;exact rfl)|(apply gD;exact rfl;exact rfl;(intro hb);rotate_left;(intro hb);rotate_right)|apply zAM|apply zAJ|(apply res1;exact rfl)
  all_goals exact zDB (by simp only [zES];first | (rw [decide_eq_decide];omega) | (symm;rw [decide_eq_false_iff_not];omega))
theorem zNU (c : UInt8) : zAj Tryz.prog 89 [u8 c] (bl (zET c)):=by
  refine zAd Tryz.func89 rfl Tryz.ntmps89 Tryz.results89 rfl ?_
  intro wb St0
  repeat' first | apply en_n|apply zAH|apply zAB|apply zAF|apply w0|(apply k1u (hd:=rfl);exact rfl;exact rfl)|apply ay (hd:=rfl)|exact zAE rfl|exact zAC rfl|exact zHH rfl rfl|exact zAi rfl rfl|exact zAh rfl rfl|(apply w1;exact rfl;exact rfl)|(apply gD;exact rfl;exact rfl;(intro hb);rotate_left;(intro hb);rotate_right)|apply zAM|apply zAJ|(apply res1;exact rfl)
  all_goals exact zDB (by simp only [zET];first | (rw [decide_eq_decide];omega) | (symm;rw [decide_eq_false_iff_not];omega))
theorem zR0 (c : UInt8) : zAj Tryz.prog 122 [u8 c] (bl (zF2 c)):=by
  refine zAd Tryz.func122 rfl Tryz.ntmps122 Tryz.results122 rfl ?_
  intro wb St0
  repeat' first | apply en_n|apply zAH|apply zAB|apply zAF|apply w0|(apply k1u (hd:=rfl);exact rfl;exact rfl)|apply ay (hd:=rfl)|exact zAE rfl|exact zAC rfl|exact zHH rfl rfl|exact zAi rfl rfl|exact zAh rfl rfl|(apply w1;exact rfl;exact rfl)|(apply gD;exact rfl;exact rfl;(intro hb);rotate_left;(intro hb);rotate_right)|apply zAM|apply zAJ|(apply res1;exact rfl)
  all_goals exact zDB (by simp only [zF2];first | (rw [decide_eq_decide];omega) | (symm;rw [decide_eq_false_iff_not];omega))
theorem zT9 (c d : UInt8) : (c == d) = decide ((c.toNat : Int) = (d.toNat : Int)):=by
  cases h : c == d with
  | true=>rw [eq_of_beq h];simp
  | false =>
    symm;rw [decide_eq_false_iff_not];intro h2
    have : c = d:=UInt8.toNat_inj.1 (by omega)
    rw [this] at h;simp at h
theorem zRe (c : UInt8) : zAj Tryz.prog 86 [u8 c] (bl (zEu c)):=by
  refine zAd Tryz.func86 rfl Tryz.ntmps86 Tryz.results86 rfl ?_
  intro wb St0
  repeat' first | apply en_n|apply zAH|apply zAB|apply zAF|apply w0|(apply k0u (hd:=rfl);exact rfl;exact rfl)|(apply zAV (hb:=zNM) (hc:=zMt c))|(apply zAV (hb:=zNQ) (hc:=zNU c))|(apply zAV (hb:=zRp) (hc:=zR0 c))|apply ay (hd:=rfl)|exact zAE rfl|exact zAC rfl|exact zC6 rfl rfl|exact zAi rfl rfl|exact zAh rfl rfl|(apply w1;exact rfl;exact rfl)|(apply gD;exact rfl;exact rfl;(intro hb);rotate_left;(intro hb);rotate_right)|apply zAM|apply zAJ|(apply res1;exact rfl)|exact zAG|refine zAX rfl ?_
  all_goals refine zDB ?_
  all_goals simp only [zEu,zES,zET,zF2,zT9, ← Bool.decide_or,show ((95 : UInt8).toNat : Int) = 95 from rfl,show ((39 : UInt8).toNat : Int) = 39 from rfl] at *
  all_goals first | (rw [decide_eq_decide];omega) | (symm;rw [decide_eq_true_eq];omega)
theorem zUV (c : UInt8) : decide (Lib.indexByte signL c ≥ 0) = zDm c:=by rw [zDm,Lib.contains_iff_indexByte]
theorem zS7 (c : UInt8) : zAj Tryz.prog 91 [u8 c] (bl (zDm c)):=by
  refine zAd Tryz.func91 rfl Tryz.ntmps91 Tryz.results91 rfl ?_
  intro wb St0
  repeat' first | apply en_n|apply zAH|apply zAB|apply zAF|apply w0|(apply zAV (hb:=zLJ) (hc:=zLt signL c))|apply ay (hd:=rfl)|exact zAE rfl|exact zAC rfl|exact zEU rfl rfl|apply zAM|apply zAJ|(apply res1;exact rfl)|exact zAG|refine zAX rfl ?_
  exact zDB (zUV c)
end Go.Proofs.YtblomnkamngnbaaGreatDoor
namespace Go.Proofs.YtblomnkamngnbaaGreatDoor
open Go.Sx
attribute [local irreducible] zAT Program.underlying Ylds zBA alex zBe zBP awp zAj zBZ zBk zA2 zBH zBR zA8 zBV zBb zBf zBu
def isK (c : UInt8) : Int:=if zDm c then 5 else if zES c then 1 else if zET c then 2 else if zF2 c then 3 else if c = 95 ∨ c = 39 then 4 else 0
theorem zRC {c : UInt8} {i : Nat} (h : i < 16) (h1 : ((signL.getD i 0).toNat : Int) = (c.toNat : Int)) : zDm c = true:=by
  have : signL.getD i 0 = c:=UInt8.toNat_inj.1 (by omega)
  have h2 : i < signL.length:=h
  rw [zDm, ← this,List.getD_eq_getElem?_getD,List.getElem?_eq_getElem h2]
  simp
theorem zKe {c : UInt8} (h : ∀ j,j < 16 → (signL.getD j 0) ≠ c) : zDm c = false:=by
  cases h2 : zDm c with
  | false=>rfl
  | true =>
    rw [zDm] at h2
    obtain ⟨j,hj,e⟩:=List.getElem_of_mem (List.contains_iff_mem.1 h2)
    refine absurd ?_ (h j hj)
    rw [List.getD_eq_getElem?_getD,List.getElem?_eq_getElem hj];exact e
set_option maxHeartbeats 4000000 in
theorem zUU (c : UInt8) : zAj Tryz.prog 78 [u8 c] (i64 (isK c)):=by
  refine zAd Tryz.func78 rfl Tryz.ntmps78 Tryz.results78 rfl ?_
  intro wb St0
  repeat' first | apply en_n|apply zAH|apply zAB|apply zAF|apply w0|apply ay (hd:=rfl)|exact zAC rfl|apply zAI
  refine zAr (α:=Nat) (fun i=>i ≤ 16 ∧ ∀ j,j < i → signL.getD j 0 ≠ c) (fun i=>[(0,.d (u8 c)),(3,.d (str signL)),(4,.d (i64 (i : Int)))]) (fun _=>[]) (fun i=>16 - i) 0 ⟨Nat.zero_le _,by omega⟩
      (zAO (zAA rfl (zAA rfl (zAA rfl zAa))) zAN rfl rfl) ?_
  rintro i ⟨hi1,hi2⟩
  have hL : signL.length = 16:=rfl
  repeat' first | apply en_n|apply zAH|apply zAB|apply zAF|apply w0|(apply k1u (hd:=rfl);exact rfl;exact rfl)|(apply k0u (hd:=rfl);exact rfl;exact rfl)|(apply zDY;exact rfl;with_reducible exact ustr)|(apply zKR;exact rfl;exact rfl;with_reducible exact ustr;(first|assumption|omega))|apply ay (hd:=rfl)|exact zAE rfl|exact zAC rfl|exact zCT rfl rfl|exact zHH rfl rfl|exact zEU rfl rfl|exact zC6 rfl rfl|(apply zBC;exact rfl;exact rfl)|exact zAi rfl rfl|exact zAh rfl rfl|(apply w1;exact rfl;exact rfl)|(apply gD;exact rfl;exact rfl;(intro hb);rotate_left;(intro hb);rotate_right)|(apply zAz;exact rfl;(intro hb);rotate_left;(intro hb);rotate_right)|(apply zAK;exact rfl)|(apply zAQ;exact rfl)|apply zAI|apply zAP|apply zAM|apply zAt|apply en_r|apply en_e|apply eb_n|apply eb_r|apply eb_e|apply zAJ|(apply res1;exact rfl)
  · rename_i h1;rw [hL] at h1
    exact zCr (by rw [isK,zRC (by omega) hb,if_pos rfl])
  · omega
  · rename_i h1;rw [hL] at h1
    refine ⟨i + 1,⟨by omega,fun j hj=>?_⟩,by omega,zAO (zAA rfl (zAA rfl (zAA rfl zAa))) zAN rfl rfl⟩
    rcases Nat.lt_or_ge j i with h | h
    · exact hi2 j h
    · rw [show j = i by omega];rintro rfl;exact hb rfl
  all_goals
    have hs : zDm c = false:=zKe fun j hj=>hi2 j (by omega)
    have e95 : c = 95 ↔ (c.toNat : Int) = 95:=by rw [← UInt8.toNat_inj];show _ = 95 ↔ _;omega
    have e39 : c = 39 ↔ (c.toNat : Int) = 39:=by rw [← UInt8.toNat_inj];show _ = 39 ↔ _;omega
    refine zCr ?_
    rw [isK,hs,if_neg (by decide)]
    simp only [zES,zET,zF2,decide_eq_true_eq,e95,e39]
    repeat' split
    all_goals first | rfl | omega
end Go.Proofs.YtblomnkamngnbaaGreatDoor
namespace Go.Proofs.YtblomnkamngnbaaGreatDoor
open Go.Sx
attribute [local irreducible] zAT Program.underlying Ylds zBA alex zBe zBP awp zAj zBZ zBk zA2 zBH zBR zA8 zBV zBb zBf zBu
theorem zHe (p : UInt8 → Bool) : ∀ (s : List UInt8) (n : Nat),n ≤ s.length → (∀ j,j < n → p (s.getD j 0) = true) → (n = s.length ∨ p (s.getD n 0) = false) → zIr p s = n
  | [],n,h,_,_=>by rw [zIr];simp at h;omega
  | c :: s,n,h,h1,h2=>by
    rw [zIr]
    cases n with
    | zero =>
      have h2 : p c = false:=by
        rcases h2 with h2 | h2
        · simp at h2
        · exact h2
      rw [h2];rfl
    | succ n =>
      have h3 : p c = true:=h1 0 (by omega)
      rw [if_pos h3,zHe p s n (by simpa using h) (fun j hj=>h1 (j + 1) (by omega)) (by simpa using h2)]
theorem getB {l : List UInt8} {i : Nat} (h : i < (⟨l.toArray⟩ : ByteArray).size) : (⟨l.toArray⟩ : ByteArray)[i]'h = l.getD i 0:=by
  have hlt : i < l.length:=by rw [zCw] at h;exact h
  rw [List.getD_eq_getElem?_getD,List.getElem?_eq_getElem hlt];rfl
theorem zQH {l : List UInt8} {i : Nat} (h : i < l.length) (h1 : ¬ ((Utf8.decode ⟨l.toArray⟩ i).1 : Int) > 126) : (Utf8.decode ⟨l.toArray⟩ i).2 = 1 ∧ (Utf8.decode ⟨l.toArray⟩ i).1 = (l.getD i 0).toNat ∧ (l.getD i 0).toNat ≤ 126:=by
  have hs : i < (⟨l.toArray⟩ : ByteArray).size:=by rw [zCw];exact h
  rcases Nat.lt_or_ge ((⟨l.toArray⟩ : ByteArray)[i]'hs).toNat 128 with h3 | h3
  · have e:=decode_ascii ⟨l.toArray⟩ i hs h3
    rw [getB hs] at e
    rw [e] at h1 ⊢
    dsimp only at h1
    exact ⟨rfl,rfl,by omega⟩
  · have:=(decode_high ⟨l.toArray⟩ i hs h3).1
    omega
theorem zOU {l : List UInt8} {i : Nat} (h : i < l.length) (h1 : ((Utf8.decode ⟨l.toArray⟩ i).1 : Int) > 126) : (l.getD i 0).toNat > 126:=by
  have hs : i < (⟨l.toArray⟩ : ByteArray).size:=by rw [zCw];exact h
  rcases Nat.lt_or_ge ((⟨l.toArray⟩ : ByteArray)[i]'hs).toNat 128 with h3 | h3
  · have e:=decode_ascii ⟨l.toArray⟩ i hs h3
    rw [getB hs] at e
    rw [e] at h1
    dsimp only at h1
    omega
  · rw [getB hs] at h3
    omega
def allF (p : UInt8 → Bool) (s : List UInt8) : Bool:=s.all p && !s.isEmpty
theorem zQY {p : UInt8 → Bool} {s : List UInt8} {i : Nat} (h : i < s.length) (h1 : p (s.getD i 0) = false) : allF p s = false:=by
  have : s.all p = false:=by
    rw [List.all_eq_false]
    refine ⟨s.getD i 0,?_,by rw [h1];decide⟩
    rw [List.getD_eq_getElem?_getD,List.getElem?_eq_getElem h];simp
  rw [allF,this];rfl
theorem zUx {p : UInt8 → Bool} {s : List UInt8} (h : ∀ j,j < s.length → p (s.getD j 0) = true) : allF p s = decide (s ≠ []):=by
  have : s.all p = true:=by
    rw [List.all_eq_true];intro x hx
    obtain ⟨j,hj,rfl⟩:=List.getElem_of_mem hx
    have:=h j hj
    rwa [List.getD_eq_getElem?_getD,List.getElem?_eq_getElem hj] at this
  rw [allF,this]
  cases s <;> simp
theorem zSj (f : FuncId) (p : UInt8 → Bool) (hb : zAT Tryz.prog f = true) (hp : ∀ c,zAj Tryz.prog f [u8 c] (bl (p c))) (hp2 : ∀ c,c.toNat > 126 → p c = false) (s : List UInt8) :
    zBH Tryz.prog 85 [.d (str s),.clo f []] [] (bl (allF p s)):=by
  have hbf:=hb;clear hb
  refine zBx Tryz.func85 rfl Tryz.ntmps85 Tryz.results85 rfl ?_
  intro wb St0
  repeat' first | apply en_n|apply zAH|apply zAB|apply zAF|apply w0|(apply zU0 (hd:=rfl) (hro:=rfl);exact rfl;with_reducible exact ustr)|apply ay (hd:=rfl)|exact zAE rfl|exact zAC rfl|apply zAI
  refine zAr (α:=Nat) (fun i=>i ≤ s.length ∧ ∀ j,j < i → p (s.getD j 0) = true)
    (fun i=>[(0,.d (str s)),(1,.clo f []),(8,.ptr 0 0)]) (fun i=>[.iter ⟨s.toArray⟩ i]) (fun i=>s.length - i) 0 ⟨Nat.zero_le _,by omega⟩
      (zAO (zAA rfl (zAA rfl (zAA rfl zAa))) (zAD rfl rfl zAN) rfl rfl) ?_
  rintro i ⟨hi1,hi2⟩
  repeat' first | apply en_n|apply zAH|apply zAB|apply zAF|apply w0|(apply k0u (hd:=rfl);exact rfl;exact rfl)|exact zGm rfl rfl|(apply zVg (hd:=rfl) (hro:=rfl);exact rfl;exact rfl;(intro hb);rotate_left;(intro hb);rotate_right)|exact zBF rfl|(apply zNi;exact rfl;with_reducible exact si32;with_reducible exact uu8)|(apply zLq (hb:=hbf) (hc:=hp (s.getD i 0));exact rfl)|apply ay (hd:=rfl)|exact zAE rfl|exact zAC rfl|exact zEp rfl rfl|exact zBr rfl|exact zAi rfl rfl|exact zAh rfl rfl|exact zBQ rfl rfl|(apply w1;exact rfl;exact rfl)|(apply gD;exact rfl;exact rfl;(intro hb);rotate_left;(intro hb);rotate_right)|(apply zAK;exact rfl)|(apply zAQ;exact rfl)|(apply zCc;exact rfl;(intro hb);rotate_left;(intro hb);rotate_right)|apply zAI|apply zAP|apply zAM|apply zAt|apply en_r|apply en_e|apply eb_n|apply eb_r|apply eb_e|apply zAJ|(apply res1;exact rfl)
  · rename_i h0
    have hlt : i < s.length:=by rw [zCw] at h0;exact h0
    exact zDB (zQY hlt (hp2 _ (zOU hlt hb))).symm
  · rename_i h0
    have hlt : i < s.length:=by rw [zCw] at h0;exact h0
    obtain ⟨_,e,hl⟩:=zQH hlt hb
    refine zAX ?_ zAG
    show SV.d (D.val (.int .u8 (IntKind.u8.wrap (((Utf8.decode ⟨s.toArray⟩ i).1 : Nat) : Int)))) = _
    rw [e,zSw,show (((s.getD i 0).toNat : Nat) : Int) % 256 = ((s.getD i 0).toNat : Int) by omega]
  · rename_i h0 h1
    have hlt : i < s.length:=by rw [zCw] at h0;exact h0
    exact zDB (zQY hlt (by simpa using hb)).symm
  · rename_i h0 h1
    have hlt : i < s.length:=by rw [zCw] at h0;exact h0
    obtain ⟨e1,_,hl⟩:=zQH hlt h1
    refine ⟨i + 1,⟨by omega,fun j hj=>?_⟩,by omega,zAO (zAA rfl (zAA rfl (zAA rfl zAa))) (zAD rfl (by rw [e1]) zAN) rfl rfl⟩
    rcases Nat.lt_or_ge j i with h | h
    · exact hi2 j h
    · rw [show j = i by omega];simpa using hb
  · have hge : ¬ i < s.length:=by rw [zCw] at hb;exact hb
    exact zDB (zUx fun j hj=>hi2 j (by omega)).symm
end Go.Proofs.YtblomnkamngnbaaGreatDoor
namespace Go.Proofs.YtblomnkamngnbaaGreatDoor
open Go.Sx
attribute [local irreducible] zAT Program.underlying Ylds zBA alex zBe zBP awp zAj zBZ zBk zA2 zBH zBR zA8 zBV zBb zBf zBu
def btw (lo hi : Int) (c : UInt8) : Bool:=decide (lo ≤ isK c ∧ isK c ≤ hi)
theorem zIb (s : List UInt8) (a j : Nat) : (s.drop a).getD j 0 = s.getD (a + j) 0:=by
  rw [List.getD_eq_getElem?_getD,List.getD_eq_getElem?_getD,List.getElem?_drop]
theorem zKX (s : List UInt8) (at_ : Nat) (lo hi : Int) (hs : s.length ≤ 9223372036854775807) (ha : at_ ≤ s.length) :
    zAj Tryz.prog 79 [str s,i64 (at_ : Int),i64 lo,i64 hi] (i64 ((at_ + zIr (btw lo hi) (s.drop at_) : Nat) : Int)):=by
  refine zAd Tryz.func79 rfl Tryz.ntmps79 Tryz.results79 rfl ?_
  intro wb St0
  repeat' first | apply en_n|apply zAH|apply zAB|apply zAF|apply w0|apply ay (hd:=rfl)|exact zAC rfl|apply zAI
  refine zAr (α:=Nat) (fun i=>at_ + i ≤ s.length ∧ ∀ j,j < i → btw lo hi ((s.drop at_).getD j 0) = true) (fun i=>[(0,.d (str s)),(1,.d (i64 ((at_ + i : Nat) : Int))),(2,.d (i64 lo)),(3,.d (i64 hi))]) (fun _=>[]) (fun i=>s.length - (at_ + i)) 0 ⟨by omega,by omega⟩
      (zAO (zAA rfl (zAA rfl (zAA rfl (zAA rfl zAa)))) zAN rfl rfl) ?_
  rintro i ⟨hi1,hi2⟩
  repeat' first | apply en_n|apply zAH|apply zAB|apply zAF|apply w0|(apply k1u (hd:=rfl);exact rfl;exact rfl)|(apply zDY;exact rfl;with_reducible exact ustr)|(apply zKR;exact rfl;exact rfl;with_reducible exact ustr;(first|assumption|omega))|(apply zAV (hb:=zUa) (hc:=zUU (s.getD (at_ + i) 0)))|apply ay (hd:=rfl)|exact zAE rfl|exact zAC rfl|exact zCT rfl rfl|exact zHH rfl rfl|exact zEU rfl rfl|(apply zBC;exact rfl;exact rfl)|exact zAi rfl rfl|exact zAh rfl rfl|(apply w1;exact rfl;exact rfl)|(apply gD;exact rfl;exact rfl;(intro hb);rotate_left;(intro hb);rotate_right)|(apply zAz;exact rfl;(intro hb);rotate_left;(intro hb);rotate_right)|(apply zAQ;exact rfl)|apply zAI|apply zAP|apply zAM|apply zAt|apply en_e|apply eb_n|apply eb_e|apply zAJ|(apply res1;exact rfl)|exact zAG|refine zAX rfl ?_
  · omega
  · rename_i h1 h2
    have hb : btw lo hi ((s.drop at_).getD i 0) = true:=by
      rw [zIb,btw,decide_eq_true_eq];exact ⟨h2,hb⟩
    refine ⟨i + 1,⟨by omega,fun j hj=>?_⟩,by omega,zAO (zAA rfl (Le_d rfl (by rw [Int.natCast_add,Int.natCast_add,Int.natCast_add,Int.add_assoc];rfl) (zAA rfl (zAA rfl zAa)))) zAN rfl rfl⟩
    rcases Nat.lt_or_ge j i with h | h
    · exact hi2 j h
    · rw [show j = i by omega];exact hb
  · rename_i h1 h2
    have hb : btw lo hi ((s.drop at_).getD i 0) = false:=by
      rw [zIb,btw,decide_eq_false_iff_not];exact fun h=>hb h.2
    rw [zHe _ _ i (by rw [List.length_drop];omega) hi2 (.inr hb)]
  · rename_i h1
    have hb : btw lo hi ((s.drop at_).getD i 0) = false:=by
      rw [zIb,btw,decide_eq_false_iff_not];exact fun h=>hb h.1
    rw [zHe _ _ i (by rw [List.length_drop];omega) hi2 (.inr hb)]
  · rw [zHe _ _ i (by rw [List.length_drop];omega) hi2 (.inl (by rw [List.length_drop];omega))]
end Go.Proofs.YtblomnkamngnbaaGreatDoor
