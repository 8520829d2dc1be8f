/- Texts of this claim, merged: SynH. -/
import Derived.Test.YtblomnkamngnbaaGreatDoorMAB
import Derived.Test.YtblomnkamngnbaaGreatDoorMAE
import Derived.Test.YtblomnkamngnbaaGreatDoorMAH
import Derived.Test.YtblomnkamngnbaaGreatDoorMAW
namespace Go.Proofs.YtblomnkamngnbaaGreatDoor
open Go.Sx
abbrev encS : List UInt8 → Value:=fun l=>.string ⟨l.toArray⟩
abbrev bagO (k : Option Nat) (S : Bag) : Ob:=.mapq false k (kvs encS (mvB S))
abbrev fO (L : List Nd) (S : Bag) (F : List (List UInt8)) : List Ob:=[.bx none (some 120) [.d (zAc L),.mp 1,.buf 2 (F.map str).length],bagO none S,.buf false 9 1 (F.map str)]
section
variable {P : Program} {η : List Ob} {σ : Sl} {dst : Option Nat} {ty : TypeId} {pos : String} {after : Array Edge} {gd : Option (Nat × Bool)} {t : TypeId} {x y : Operand}
theorem zHG {id k e : Nat} {kb : Option Nat} {S : Bag} {a : List UInt8} (hx : oval σ x = .mp id) (ho : η[id]? = some (bagO kb S)) (hy : oval σ y = .d (str a)) (ht : zDf P t = some (k,e)) (hk : P.underlying k = some .string) (hz : zFy P e = some (.val (.int .i64 0))) :
    Ylds P η σ ⟨dst,.lookup t x y false,ty,pos,after,gd⟩ (.d (i64 (lkB S a : Int))):=by
  have:=zSE (dst:=dst) (ty:=ty) (pos:=pos) (after:=after) (gd:=gd) hx ho hy ht hk hz
  rw [zPZ] at this;exact this
end
section
variable {C : Ctx} {ops : Array Oper} {rest : List Oper} {K : Sl → List Ob → Prop} {σ : Sl} {η : List Ob} {ty : TypeId} {pos : String} {after : Array Edge} {gd : Option (Nat × Bool)} {t : TypeId} {x y z : Operand}
theorem aUpB {id k e : Nat} {kb : Option Nat} {S : Bag} {a : List UInt8} (hx : oval σ x = .mp id) (ho : η[id]? = some (bagO kb S)) (hy : oval σ y = .d (str a)) (hz : oval σ z = .d (.val (.int .i64 ((lkB S a : Int) + 1)))) (ht : zDf C.P t = some (k,e)) (hk : C.P.underlying k = some .string) (hro : Nat.ble C.ro id = true)
    (h : alex C false ops rest K σ (η.set id (bagO kb (upB S a)))) : zBA C false ops ⟨none,.mapUpdate t x y z,ty,pos,after,gd⟩ rest K σ η :=
  zLp (dv:=i64 ((lkB S a + 1 : Nat) : Int)) hx ho hy (zAk (by rw [hz,Int.natCast_add];rfl)) ht hk hro (by rw [zPM];exact h)
theorem aDnB {id k e : Nat} {kb : Option Nat} {S : Bag} {a : List UInt8} (hx : oval σ x = .mp id) (ho : η[id]? = some (bagO kb S)) (hy : oval σ y = .d (str a)) (hz : oval σ z = .d (.val (.int .i64 ((lkB S a : Int) - 1)))) (h1 : 1 ≤ lkB S a) (ht : zDf C.P t = some (k,e)) (hk : C.P.underlying k = some .string) (hro : Nat.ble C.ro id = true)
    (h : alex C false ops rest K σ (η.set id (bagO kb (putB S a (lkB S a - 1))))) : zBA C false ops ⟨none,.mapUpdate t x y z,ty,pos,after,gd⟩ rest K σ η :=
  zLp (dv:=i64 ((lkB S a - 1 : Nat) : Int)) hx ho hy (zAk (by rw [hz,Int.natCast_sub h1];rfl)) ht hk hro (by rw [zPM];exact h)
theorem zVi {id k e : Nat} {kb : Option Nat} {S : Bag} {a : List UInt8} {ts : Array TypeId} (hx : oval σ x = .mp id) (ho : η[id]? = some (bagO kb S)) (hy : oval σ y = .d (str a)) (hts : ts[0]? = some t) (ht : zDf C.P t = some (k,e)) (hk : C.P.underlying k = some .string) (hro : Nat.ble C.ro id = true)
    (h : alex C false ops rest K σ (η.set id (bagO kb (delB S a)))) : zBA C false ops ⟨none,.call ⟨.builtin .delete, #[x,y],ts⟩,ty,pos,after,gd⟩ rest K σ η :=
  zQb hx ho hy hts ht hk hro (by rw [zSh];exact h)
end
attribute [local irreducible] zAT Program.underlying Ylds zBA alex zBe zBP awp zAj zBZ zBk zA2 zBH zBR zA8 zBV zBb zBf zBu zBO VCall
set_option maxHeartbeats 4000000 in
theorem zHy (L : List Nd) (q r : Int) (S : Bag) (F F' ns : List (List UInt8)) (hS : GoodB S) (hn : ns.length ≤ 1000000) (hb : ∀ a,lkB S a ≤ 1000000)
    (hc : zA2 Tryz.prog 106 [.ptr 0 0,.d (i64 q)] (fO L (upsB S ns) F) (.d (i64 r)) (fO L (upsB S ns) F')) :
    zA2 Tryz.prog 129 [.ptr 0 0,.d (i64 q),.d (strs ns)] (fO L S F) (.d (i64 r)) (fO L S F'):=by
  refine zA1 Tryz.func129 rfl Tryz.ntmps129 Tryz.results129 rfl rfl rfl ?_
  intro wb St0 X fx
  have hback:=zUv hS ns
  repeat' first | apply en_n|apply zAH|apply zAB|apply zAF|apply w0|apply ay (hd:=rfl)|exact zAE rfl|exact zAC rfl|(apply zAl;exact rfl;(with_reducible first|exact zC5|exact zC5))|apply zAI
  refine zAr (α:=Nat) (fun i=>i ≤ ns.length) (fun i=>[(0,.ptr 0 0),(1,.d (i64 q)),(2,.d (strs ns)),(12,.d (strs ns)),(13,.d (i64 (ns.length : Int))),(14,.d (i64 (i : Int)))])
    (fun i=>[.bx (fx 0) (some 120) [.d (zAc L),.mp 1,.buf 2 (F.map str).length],bagO (fx 1) (upsB S (ns.take i)),.buf false 9 1 (F.map str)]) (fun i=>ns.length - i) 0 (Nat.zero_le _)
    (zAO (zAA rfl (zAA rfl (zAA rfl (zAA rfl (Le_d rfl rfl (zAA rfl zAa)))))) (zAD rfl rfl (zAD rfl rfl (zAu rfl rfl rfl zAN))) rfl rfl) ?_
  intro i hi
  rcases Nat.lt_or_ge i ns.length with hlt | hge
  · obtain ⟨v,hv⟩ : ∃ v,ns[i]? = some v:=⟨_,List.getElem?_eq_getElem hlt⟩
    have hli : (i : Int) < (ns.length : Int):=by omega
    have hlk : lkB (upsB S (ns.take i)) v ≤ 2000000:=by
      rw [zF1]
      have h1 : (ns.take i).count v ≤ i:=Nat.le_trans List.count_le_length (by rw [List.length_take];omega)
      have:=hb v;omega
    have hnx:=zOv (S:=S) hv
    repeat' first | apply en_n|apply zAH|apply zAB|apply zAF|apply w0|(apply zA5;exact rfl;exact rfl;first|assumption|omega)|exact zAo rfl|(apply zHG;exact rfl;exact rfl;exact rfl;(with_reducible exact zIH);(with_reducible exact ustr);(with_reducible exact zGs))|(apply aUpB;exact rfl;exact rfl;exact rfl;exact rfl;(with_reducible exact zIH);(with_reducible exact ustr);exact rfl)|(apply aJ (hd:=rfl);(first|exact zAk rfl|exact Co_bb rfl rfl rfl|exact Co_nn rfl);exact rfl;(with_reducible first|exact zBW|exact zBW);assumption;omega;exact fun _=>rfl)|apply ay (hd:=rfl)|exact zAE rfl|exact zAC rfl|(apply zAg;exact rfl;(with_reducible exact zAv))|(apply zBC;exact rfl;exact rfl)|exact zAZ rfl|(apply zAR;exact rfl;(with_reducible exact fd_1))|(apply zAU;exact rfl;(with_reducible exact zI0);exact rfl;exact rfl)|(refine w0' ?_)|(apply zAK;exact rfl)|apply zAI|apply zAP|apply eb_n
    all_goals try omega
    exact ⟨i + 1,by omega,by omega,zAO (zAA rfl (zAA rfl (zAA rfl (zAA rfl (zAA rfl (zAA rfl zAa)))))) (zAD rfl rfl (zAD rfl (by rw [hnx]) (zAu rfl rfl rfl zAN))) rfl rfl⟩
  · have hli : ¬ (i : Int) < (ns.length : Int):=by omega
    have e : ns.take i = ns:=List.take_of_length_le hge
    rw [e]
    clear e
    repeat' first | apply en_n|apply zAH|apply zAB|apply zAF|apply w0|(apply zBq;exact rfl;exact rfl;first|assumption|omega)|(refine zA3 [0,1,2] zIW (hc) ?_ rfl rfl (by decide) rfl rfl rfl rfl rfl rfl ?_;(repeat (refine zAL rfl ?_));exact zAS)|apply ay (hd:=rfl)|exact zAE rfl|exact zAC rfl|(apply zAl;exact rfl;(with_reducible first|exact zC5|exact zC5))|exact zAZ rfl|(apply zAQ;exact rfl)|apply zAI|apply zAt|apply en_e|apply eb_e
    refine zAr (α:=Nat) (fun i=>i ≤ ns.length) (fun i=>[(0,.ptr 0 0),(9,.d (i64 r)),(29,.d (strs ns)),(30,.d (i64 (ns.length : Int))),(31,.d (i64 (i : Int)))])
      (fun i=>[.bx (fx 0) (some 120) [.d (zAc L),.mp 1,.buf 2 (F'.map str).length],bagO (fx 1) (dnsB (upsB S ns) (ns.take i)),.buf false 9 1 (F'.map str)]) (fun i=>ns.length - i) 0 (Nat.zero_le _)
      (zAO (zAA rfl (zAA rfl (zAA rfl (zAA rfl (Le_d rfl rfl zAa))))) (zAD rfl rfl (zAD rfl rfl (zAu rfl rfl rfl zAN))) rfl rfl) ?_
    intro i hi
    rcases Nat.lt_or_ge i ns.length with hlt | hge
    · obtain ⟨v,hv⟩ : ∃ v,ns[i]? = some v:=⟨_,List.getElem?_eq_getElem hlt⟩
      have hli : (i : Int) < (ns.length : Int):=by omega
      obtain ⟨hl1,hl2⟩:=zRb hS hv
      have hnx:=zQE (S:=upsB S ns) hv
      have hbv:=hb v
      generalize dnsB (upsB S ns) (ns.take i) = B at *
      have hp : lkB (putB B v (lkB B v - 1)) v = lkB B v - 1:=by rw [zMD,if_pos rfl]
      have fin : ∀ σ' η',Fits [(0,.ptr 0 0),(9,.d (i64 r)),(29,.d (strs ns)),(30,.d (i64 (ns.length : Int))),(31,.d (i64 ((i + 1 : Nat) : Int)))] [.bx (fx 0) (some 120) [.d (zAc L),.mp 1,.buf 2 (F'.map str).length],bagO (fx 1) (dnsB (upsB S ns) (ns.take (i + 1))),.buf false 9 1 (F'.map str)] σ' η' →
          ∃ y,y ≤ ns.length ∧ ns.length - y < ns.length - i ∧ Fits [(0,.ptr 0 0),(9,.d (i64 r)),(29,.d (strs ns)),(30,.d (i64 (ns.length : Int))),(31,.d (i64 (y : Int)))] [.bx (fx 0) (some 120) [.d (zAc L),.mp 1,.buf 2 (F'.map str).length],bagO (fx 1) (dnsB (upsB S ns) (ns.take y)),.buf false 9 1 (F'.map str)] σ' η' :=
        fun σ' η' hf=>⟨i + 1,by omega,by omega,hf⟩
      by_cases h0 : lkB B v - 1 = 0
      · have h0' : ((lkB (putB B v (lkB B v - 1)) v : Nat) : Int) = 0:=by rw [hp,h0];rfl
        rw [dnB,if_pos h0] at hnx
        repeat' first | apply en_n|apply zAH|apply zAB|apply zAF|apply w0|(apply zA5;exact rfl;exact rfl;first|assumption|omega)|(apply zBD;exact rfl;exact rfl;first|assumption|omega)|exact zAo rfl|(apply zHG;exact rfl;exact rfl;exact rfl;(with_reducible exact zIH);(with_reducible exact ustr);(with_reducible exact zGs))|(apply aDnB;exact rfl;exact rfl;exact rfl;exact rfl;exact hl1;(with_reducible exact zIH);(with_reducible exact ustr);exact rfl)|(apply zVi;exact rfl;exact rfl;exact rfl;exact rfl;exact zIH;(with_reducible exact ustr);exact rfl)|(apply aJ (hd:=rfl);(first|exact zAk rfl|exact Co_bb rfl rfl rfl|exact Co_nn rfl);exact rfl;(with_reducible first|exact zBW|exact zBW);assumption;omega;exact fun _=>rfl)|apply ay (hd:=rfl)|exact zAE rfl|exact zAC rfl|(apply zAg;exact rfl;(with_reducible exact zAv))|(apply zBC;exact rfl;exact rfl)|(apply zIt;exact rfl;exact rfl)|exact zAZ rfl|(apply zAR;exact rfl;(with_reducible exact fd_1))|(apply zAU;exact rfl;(with_reducible exact zI0);exact rfl;exact rfl)|(refine w0' ?_)|(apply zAK;exact rfl)|apply zAI|apply zAP|apply eb_n
        all_goals try omega
        refine fin _ _ ?_
        exact zAO (zAA rfl (zAA rfl (zAA rfl (zAA rfl (zAA rfl zAa))))) (zAD rfl rfl (zAD rfl (by rw [hnx]) (zAu rfl rfl rfl zAN))) rfl rfl
      · have h0' : ¬ ((lkB (putB B v (lkB B v - 1)) v : Nat) : Int) = 0:=by rw [hp];omega
        rw [dnB,if_neg h0] at hnx
        repeat' first | apply en_n|apply zAH|apply zAB|apply zAF|apply w0|(apply zA5;exact rfl;exact rfl;first|assumption|omega)|(apply zA9;exact rfl;exact rfl;first|assumption|omega)|exact zAo rfl|(apply zHG;exact rfl;exact rfl;exact rfl;(with_reducible exact zIH);(with_reducible exact ustr);(with_reducible exact zGs))|(apply aDnB;exact rfl;exact rfl;exact rfl;exact rfl;exact hl1;(with_reducible exact zIH);(with_reducible exact ustr);exact rfl)|(apply aJ (hd:=rfl);(first|exact zAk rfl|exact Co_bb rfl rfl rfl|exact Co_nn rfl);exact rfl;(with_reducible first|exact zBW|exact zBW);assumption;omega;exact fun _=>rfl)|apply ay (hd:=rfl)|exact zAE rfl|exact zAC rfl|(apply zAg;exact rfl;(with_reducible exact zAv))|(apply zBC;exact rfl;exact rfl)|(apply zIt;exact rfl;exact rfl)|exact zAZ rfl|(apply zAR;exact rfl;(with_reducible exact fd_1))|(apply zAU;exact rfl;(with_reducible exact zI0);exact rfl;exact rfl)|(refine w0' ?_)|(apply zAK;exact rfl)|(apply zAQ;exact rfl)|apply zAI|apply zAP|apply eb_n
        all_goals try omega
        refine fin _ _ ?_
        exact zAO (zAA rfl (zAA rfl (zAA rfl (zAA rfl (zAA rfl zAa))))) (zAD rfl rfl (zAD rfl (by rw [hnx]) (zAu rfl rfl rfl zAN))) rfl rfl
    · have hli : ¬ (i : Int) < (ns.length : Int):=by omega
      have e : ns.take i = ns:=List.take_of_length_le hge
      rw [e,hback]
      repeat' first | apply en_n|apply zAH|apply zAB|apply zAF|apply w0|(apply zBq;exact rfl;exact rfl;first|assumption|omega)|apply ay (hd:=rfl)|exact zAE rfl|exact zAC rfl|(apply zAQ;exact rfl)|apply zAM|apply zAt|apply en_e|apply eb_e
      all_goals exact zAq (zAO (zAA rfl zAa) (zAD rfl rfl (zAD rfl rfl (zAu rfl rfl rfl zAN))) rfl rfl)
end Go.Proofs.YtblomnkamngnbaaGreatDoor
