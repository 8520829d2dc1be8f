/- Texts of this claim, merged: SynH. -/
import Derived.Test.YtblomnkamngnbaaGreatDoorMAB
import Derived.Test.YtblomnkamngnbaaGreatDoorMAG
import Derived.Test.YtblomnkamngnbaaGreatDoorMAI
import Derived.Test.YtblomnkamngnbaaGreatDoorMAX
namespace Go.Proofs.YtblomnkamngnbaaGreatDoor
open Go.Sx
abbrev encS : List UInt8 → Value:=fun l=>.string ⟨l.toArray⟩
abbrev bagO (k : Option Nat) (S : Bag) : Ob:=.mapq false k (kvs encS (mvB S))
abbrev fO (L : List Nd) (S : Bag) (F : List (List UInt8)) : List Ob:=[.bx none (some 120) [.d (zAc L),.mp 1,.buf 2 (F.map str).length],bagO none S,.buf false 9 1 (F.map str)]
section
variable {P : Program} {η : List Ob} {σ : Sl} {dst : Option Nat} {ty : TypeId} {pos : String} {after : Array Edge} {gd : Option (Nat × Bool)} {t : TypeId} {x y : Operand}
theorem zHY {id k e : Nat} {kb : Option Nat} {S : Bag} {a : List UInt8} (hx : oval σ x = .mp id) (ho : η[id]? = some (bagO kb S)) (hy : oval σ y = .d (str a)) (ht : zDk P t = some (k,e)) (hk : P.underlying k = some .string) (hz : zGM P e = some (.val (.int .i64 0))) :
    Ylds P η σ ⟨dst,.lookup t x y false,ty,pos,after,gd⟩ (.d (i64 (lkB S a : Int))):=by
  have:=zTK (dst:=dst) (ty:=ty) (pos:=pos) (after:=after) (gd:=gd) hx ho hy ht hk hz
  rw [zQK] at this;exact this
end
section
variable {C : Ctx} {ops : Array Oper} {rest : List Oper} {K : Sl → List Ob → Prop} {σ : Sl} {η : List Ob} {ty : TypeId} {pos : String} {after : Array Edge} {gd : Option (Nat × Bool)} {t : TypeId} {x y z : Operand}
theorem aUpB {id k e : Nat} {kb : Option Nat} {S : Bag} {a : List UInt8} (hx : oval σ x = .mp id) (ho : η[id]? = some (bagO kb S)) (hy : oval σ y = .d (str a)) (hz : oval σ z = .d (.val (.int .i64 ((lkB S a : Int) + 1)))) (ht : zDk C.P t = some (k,e)) (hk : C.P.underlying k = some .string) (hro : Nat.ble C.ro id = true)
    (h : alex C false ops rest K σ (η.set id (bagO kb (upB S a)))) : zA3 C false ops ⟨none,.mapUpdate t x y z,ty,pos,after,gd⟩ rest K σ η :=
  zMK (dv:=i64 ((lkB S a + 1 : Nat) : Int)) hx ho hy (zAn (by rw [hz,Int.natCast_add];rfl)) ht hk hro (by rw [zP7];exact h)
theorem aDnB {id k e : Nat} {kb : Option Nat} {S : Bag} {a : List UInt8} (hx : oval σ x = .mp id) (ho : η[id]? = some (bagO kb S)) (hy : oval σ y = .d (str a)) (hz : oval σ z = .d (.val (.int .i64 ((lkB S a : Int) - 1)))) (h1 : 1 ≤ lkB S a) (ht : zDk C.P t = some (k,e)) (hk : C.P.underlying k = some .string) (hro : Nat.ble C.ro id = true)
    (h : alex C false ops rest K σ (η.set id (bagO kb (putB S a (lkB S a - 1))))) : zA3 C false ops ⟨none,.mapUpdate t x y z,ty,pos,after,gd⟩ rest K σ η :=
  zMK (dv:=i64 ((lkB S a - 1 : Nat) : Int)) hx ho hy (zAn (by rw [hz,Int.natCast_sub h1];rfl)) ht hk hro (by rw [zP7];exact h)
theorem zWk {id k e : Nat} {kb : Option Nat} {S : Bag} {a : List UInt8} {ts : Array TypeId} (hx : oval σ x = .mp id) (ho : η[id]? = some (bagO kb S)) (hy : oval σ y = .d (str a)) (hts : ts[0]? = some t) (ht : zDk C.P t = some (k,e)) (hk : C.P.underlying k = some .string) (hro : Nat.ble C.ro id = true)
    (h : alex C false ops rest K σ (η.set id (bagO kb (delB S a)))) : zA3 C false ops ⟨none,.call ⟨.builtin .delete, #[x,y],ts⟩,ty,pos,after,gd⟩ rest K σ η :=
  zRV hx ho hy hts ht hk hro (by rw [zTt];exact h)
end
attribute [local irreducible] zAO Program.underlying Ylds zA3 alex zBY zBN awp zAm zBT zBe zAx zBA zBP zA2 zBR zBX zBa zBq zBI VCall
set_option maxHeartbeats 4000000 in
theorem zH9 (L : List Nd) (q r : Int) (S : Bag) (F F' ns : List (List UInt8)) (hS : GoodB S) (hn : ns.length ≤ 1000000) (hb : ∀ a,lkB S a ≤ 1000000)
    (hc : zAx Tryz.prog 106 [.ptr 0 0,.d (i64 q)] (fO L (upsB S ns) F) (.d (i64 r)) (fO L (upsB S ns) F')) :
    zAx Tryz.prog 129 [.ptr 0 0,.d (i64 q),.d (strs ns)] (fO L S F) (.d (i64 r)) (fO L S F'):=by
  refine zAw Tryz.func129 rfl Tryz.ntmps129 Tryz.results129 rfl rfl rfl ?_
  intro wb St0 X fx
  have hback:=zVw hS ns
  repeat' first | apply en_n|apply zAH|apply zAC|apply zAF|apply w0|apply ay (hd:=rfl)|exact zAE rfl|exact zAD rfl|(apply zAr;exact rfl;(with_reducible first|exact zDu|exact zDu))|apply zAJ
  refine zAs (α:=Nat) (fun i=>i ≤ ns.length) (fun i=>[(0,.ptr 0 0),(1,.d (i64 q)),(2,.d (strs ns)),(12,.d (strs ns)),(13,.d (i64 (ns.length : Int))),(14,.d (i64 (i : Int)))])
    (fun i=>[.bx (fx 0) (some 120) [.d (zAc L),.mp 1,.buf 2 (F.map str).length],bagO (fx 1) (upsB S (ns.take i)),.buf false 9 1 (F.map str)]) (fun i=>ns.length - i) 0 (Nat.zero_le _)
    (zAL (zAA rfl (zAA rfl (zAA rfl (zAA rfl (Le_d rfl rfl (zAA rfl zAW)))))) (zAB rfl rfl (zAB rfl rfl (zAl rfl rfl rfl zAK))) rfl rfl) ?_
  intro i hi
  rcases Nat.lt_or_ge i ns.length with hlt | hge
  · obtain ⟨v,hv⟩ : ∃ v,ns[i]? = some v:=⟨_,List.getElem?_eq_getElem hlt⟩
    have hli : (i : Int) < (ns.length : Int):=by omega
    have hlk : lkB (upsB S (ns.take i)) v ≤ 2000000:=by
      rw [zE9]
      have h1 : (ns.take i).count v ≤ i:=Nat.le_trans List.count_le_length (by rw [List.length_take];omega)
      have:=hb v;omega
    have hnx:=zPc (S:=S) hv
    repeat' first | apply en_n|apply zAH|apply zAC|apply zAF|apply w0|(apply zBK;exact rfl;exact rfl;first|assumption|omega)|exact zAe rfl|(apply zHY;exact rfl;exact rfl;exact rfl;(with_reducible exact zIW);(with_reducible exact ustr);(with_reducible exact zHF))|(apply aUpB;exact rfl;exact rfl;exact rfl;exact rfl;(with_reducible exact zIW);(with_reducible exact ustr);exact rfl)|(apply aJ (hd:=rfl);(first|exact zAn rfl|exact Co_bb rfl rfl rfl|exact Co_nn rfl);exact rfl;(with_reducible first|exact zBx|exact zBx);assumption;omega;exact fun _=>rfl)|apply ay (hd:=rfl)|exact zAE rfl|exact zAD rfl|(apply zAi;exact rfl;(with_reducible exact zA4))|(apply zBG;exact rfl;exact rfl)|exact zAR rfl|(apply zAS;exact rfl;(with_reducible exact fd_1))|(apply zAV;exact rfl;(with_reducible exact zJG);exact rfl;exact rfl)|(refine w0' ?_)|(apply zAQ;exact rfl)|apply zAJ|apply zAT|apply eb_n
    all_goals try omega
    exact ⟨i + 1,by omega,by omega,zAL (zAA rfl (zAA rfl (zAA rfl (zAA rfl (zAA rfl (zAA rfl zAW)))))) (zAB rfl rfl (zAB rfl (by rw [hnx]) (zAl rfl rfl rfl zAK))) rfl rfl⟩
  · have hli : ¬ (i : Int) < (ns.length : Int):=by omega
    have e : ns.take i = ns:=List.take_of_length_le hge
    rw [e]
    clear e
    repeat' first | apply en_n|apply zAH|apply zAC|apply zAF|apply w0|(apply zCJ;exact rfl;exact rfl;first|assumption|omega)|(refine zAy [0,1,2] zIj (hc) ?_ rfl rfl (by decide) rfl rfl rfl rfl rfl rfl ?_;(repeat (refine zAI rfl ?_));exact zAM)|apply ay (hd:=rfl)|exact zAE rfl|exact zAD rfl|(apply zAr;exact rfl;(with_reducible first|exact zDu|exact zDu))|exact zAR rfl|(apply zAU;exact rfl)|apply zAJ|apply zAu|apply en_e|apply eb_e
    refine zAs (α:=Nat) (fun i=>i ≤ ns.length) (fun i=>[(0,.ptr 0 0),(9,.d (i64 r)),(29,.d (strs ns)),(30,.d (i64 (ns.length : Int))),(31,.d (i64 (i : Int)))])
      (fun i=>[.bx (fx 0) (some 120) [.d (zAc L),.mp 1,.buf 2 (F'.map str).length],bagO (fx 1) (dnsB (upsB S ns) (ns.take i)),.buf false 9 1 (F'.map str)]) (fun i=>ns.length - i) 0 (Nat.zero_le _)
      (zAL (zAA rfl (zAA rfl (zAA rfl (zAA rfl (Le_d rfl rfl zAW))))) (zAB rfl rfl (zAB rfl rfl (zAl rfl rfl rfl zAK))) rfl rfl) ?_
    intro i hi
    rcases Nat.lt_or_ge i ns.length with hlt | hge
    · obtain ⟨v,hv⟩ : ∃ v,ns[i]? = some v:=⟨_,List.getElem?_eq_getElem hlt⟩
      have hli : (i : Int) < (ns.length : Int):=by omega
      obtain ⟨hl1,hl2⟩:=zSa hS hv
      have hnx:=zQ5 (S:=upsB S ns) hv
      have hbv:=hb v
      generalize dnsB (upsB S ns) (ns.take i) = B at *
      have hp : lkB (putB B v (lkB B v - 1)) v = lkB B v - 1:=by rw [zMk,if_pos rfl]
      have fin : ∀ σ' η',Fits [(0,.ptr 0 0),(9,.d (i64 r)),(29,.d (strs ns)),(30,.d (i64 (ns.length : Int))),(31,.d (i64 ((i + 1 : Nat) : Int)))] [.bx (fx 0) (some 120) [.d (zAc L),.mp 1,.buf 2 (F'.map str).length],bagO (fx 1) (dnsB (upsB S ns) (ns.take (i + 1))),.buf false 9 1 (F'.map str)] σ' η' →
          ∃ y,y ≤ ns.length ∧ ns.length - y < ns.length - i ∧ Fits [(0,.ptr 0 0),(9,.d (i64 r)),(29,.d (strs ns)),(30,.d (i64 (ns.length : Int))),(31,.d (i64 (y : Int)))] [.bx (fx 0) (some 120) [.d (zAc L),.mp 1,.buf 2 (F'.map str).length],bagO (fx 1) (dnsB (upsB S ns) (ns.take y)),.buf false 9 1 (F'.map str)] σ' η' :=
        fun σ' η' hf=>⟨i + 1,by omega,by omega,hf⟩
      by_cases h0 : lkB B v - 1 = 0
      · have h0' : ((lkB (putB B v (lkB B v - 1)) v : Nat) : Int) = 0:=by rw [hp,h0];rfl
        rw [dnB,if_pos h0] at hnx
        repeat' first | apply en_n|apply zAH|apply zAC|apply zAF|apply w0|(apply zBK;exact rfl;exact rfl;first|assumption|omega)|(apply zBV;exact rfl;exact rfl;first|assumption|omega)|exact zAe rfl|(apply zHY;exact rfl;exact rfl;exact rfl;(with_reducible exact zIW);(with_reducible exact ustr);(with_reducible exact zHF))|(apply aDnB;exact rfl;exact rfl;exact rfl;exact rfl;exact hl1;(with_reducible exact zIW);(with_reducible exact ustr);exact rfl)|(apply zWk;exact rfl;exact rfl;exact rfl;exact rfl;exact zIW;(with_reducible exact ustr);exact rfl)|(apply aJ (hd:=rfl);(first|exact zAn rfl|exact Co_bb rfl rfl rfl|exact Co_nn rfl);exact rfl;(with_reducible first|exact zBx|exact zBx);assumption;omega;exact fun _=>rfl)|apply ay (hd:=rfl)|exact zAE rfl|exact zAD rfl|(apply zAi;exact rfl;(with_reducible exact zA4))|(apply zBG;exact rfl;exact rfl)|(apply zJC;exact rfl;exact rfl)|exact zAR rfl|(apply zAS;exact rfl;(with_reducible exact fd_1))|(apply zAV;exact rfl;(with_reducible exact zJG);exact rfl;exact rfl)|(refine w0' ?_)|(apply zAQ;exact rfl)|apply zAJ|apply zAT|apply eb_n
        all_goals try omega
        refine fin _ _ ?_
        exact zAL (zAA rfl (zAA rfl (zAA rfl (zAA rfl (zAA rfl zAW))))) (zAB rfl rfl (zAB rfl (by rw [hnx]) (zAl rfl rfl rfl zAK))) rfl rfl
      · have h0' : ¬ ((lkB (putB B v (lkB B v - 1)) v : Nat) : Int) = 0:=by rw [hp];omega
        rw [dnB,if_neg h0] at hnx
        repeat' first | apply en_n|apply zAH|apply zAC|apply zAF|apply w0|(apply zBK;exact rfl;exact rfl;first|assumption|omega)|(apply zBW;exact rfl;exact rfl;first|assumption|omega)|exact zAe rfl|(apply zHY;exact rfl;exact rfl;exact rfl;(with_reducible exact zIW);(with_reducible exact ustr);(with_reducible exact zHF))|(apply aDnB;exact rfl;exact rfl;exact rfl;exact rfl;exact hl1;(with_reducible exact zIW);(with_reducible exact ustr);exact rfl)|(apply aJ (hd:=rfl);(first|exact zAn rfl|exact Co_bb rfl rfl rfl|exact Co_nn rfl);exact rfl;(with_reducible first|exact zBx|exact zBx);assumption;omega;exact fun _=>rfl)|apply ay (hd:=rfl)|exact zAE rfl|exact zAD rfl|(apply zAi;exact rfl;(with_reducible exact zA4))|(apply zBG;exact rfl;exact rfl)|(apply zJC;exact rfl;exact rfl)|exact zAR rfl|(apply zAS;exact rfl;(with_reducible exact fd_1))|(apply zAV;exact rfl;(with_reducible exact zJG);exact rfl;exact rfl)|(refine w0' ?_)|(apply zAQ;exact rfl)|(apply zAU;exact rfl)|apply zAJ|apply zAT|apply eb_n
        all_goals try omega
        refine fin _ _ ?_
        exact zAL (zAA rfl (zAA rfl (zAA rfl (zAA rfl (zAA rfl zAW))))) (zAB rfl rfl (zAB rfl (by rw [hnx]) (zAl rfl rfl rfl zAK))) rfl rfl
    · have hli : ¬ (i : Int) < (ns.length : Int):=by omega
      have e : ns.take i = ns:=List.take_of_length_le hge
      rw [e,hback]
      repeat' first | apply en_n|apply zAH|apply zAC|apply zAF|apply w0|(apply zCJ;exact rfl;exact rfl;first|assumption|omega)|apply ay (hd:=rfl)|exact zAE rfl|exact zAD rfl|(apply zAU;exact rfl)|apply zAN|apply zAu|apply en_e|apply eb_e
      all_goals exact zAh (zAL (zAA rfl zAW) (zAB rfl rfl (zAB rfl rfl (zAl rfl rfl rfl zAK))) rfl rfl)
end Go.Proofs.YtblomnkamngnbaaGreatDoor
