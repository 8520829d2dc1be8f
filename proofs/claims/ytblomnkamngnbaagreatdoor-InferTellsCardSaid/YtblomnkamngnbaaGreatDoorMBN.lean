/- Texts of this claim, merged: TypN, TypO, InfYC. -/
import Derived.Test.YtblomnkamngnbaaGreatDoorMAG
import Derived.Test.YtblomnkamngnbaaGreatDoorMAH
import Derived.Test.YtblomnkamngnbaaGreatDoorMBL
import Derived.Test.YtblomnkamngnbaaGreatDoorMBM
namespace Go.Proofs.YtblomnkamngnbaaGreatDoor
open Go.Sx
theorem Y_eqsF {P : Program} {η : List Ob} {σ : Sl} {dst : Option Nat} {ty : TypeId} {pos : String} {after : Array Edge} {gd : Option (Nat × Bool)} {t yt : TypeId} {x y : Operand} {u v : List UInt8} (h : u ≠ v) (hx : oval σ x = .d (str u)) (hy : oval σ y = .d (str v)) :
    Ylds P η σ ⟨dst,.binOp .eql t x y yt,ty,pos,after,gd⟩ (.d (.val (.bool false))):=by
  have:=zGo (P:=P) (η:=η) (σ:=σ) (dst:=dst) (ty:=ty) (pos:=pos) (after:=after) (gd:=gd) (t:=t) (yt:=yt) hx hy
  rwa [decide_eq_false h] at this
theorem zMV {s u : List UInt8} {b : Bool} (h : u = (if b then 40 :: s ++ [41] else s)) : s.length ≤ u.length:=by
  subst h;cases b <;> simp;omega
attribute [local irreducible] zAT Program.underlying Ylds zBA alex zBe zBP awp zAj zBZ zBk zA2 zBH zBR zA8 zBV zBb zBf zBu zBO
set_option maxHeartbeats 4000000 in
theorem zO2 (L : List Nd) (hL : L.length ≤ 1000000) (hnum : ∀ x ∈ L,0 ≤ x.num ∧ x.num ≤ 9223372036854775807) : ∀ (n i : Nat) (u : List UInt8) (j : Nat),zHV n L i = some (u,j) → u.length ≤ 1000000 →
    zAj Tryz.prog 41 [zAc L,i64 (i : Int)] (.tup [str u,i64 (j : Int)])
  | 0,_,_,_,h,_=>by cases h
  | n + 1,i,u,j,h,hu=>by
    have ih:=zO2 L hL hnum n
    have hle:=zGH L (n + 1) i u j h
    unfold zHV at h
    split at h
    · cases h
    · rename_i x hx
      have hi:=(List.getElem?_eq_some_iff.1 hx).1
      have hxn:=hnum x (List.mem_of_getElem? hx)
      refine zIE Tryz.func41 rfl Tryz.ntmps41 Tryz.results41 rfl ?_
      intro wb St0
      split at h
      · rename_i hk
        injection h with h;injection h with h1 h2;subst h1;subst h2
        repeat' first | apply en_n|apply zAH|apply zAB|apply zAF|apply w0|(apply zBD;exact rfl;exact rfl;first|assumption|omega)|(refine zCx ?_)|(refine zEs ?_)|exact zFw|(refine RV_d rfl ?_ ?_)|(apply zAV (hb:=zLK) (hc:=zLu x.num (by omega) (by omega));exact zAX rfl (zAX rfl zAG))|(apply zKS;exact rfl;exact rfl;simp only [List.length_cons,List.length_nil] at hu ⊢;omega)|(apply aJ (hd:=rfl);(first|exact zAk rfl|exact Co_bb rfl rfl rfl|exact Co_nn rfl);exact rfl;(with_reducible exact zAW);assumption;omega;exact fun _=>rfl)|(apply aBox (hd:=rfl) (hro:=rfl);exact rfl;exact rfl)|(apply zA4 (hd:=rfl) (hro:=rfl);(with_reducible exact zAp))|apply ay (hd:=rfl)|exact zAC rfl|(apply zAf;exact rfl;(with_reducible exact zAY);exact rfl)|(apply zBC;exact rfl;exact rfl)|(apply zAR;exact rfl;(with_reducible first|exact fn_0|exact fn_2))|(apply zAU;exact rfl;(with_reducible first|exact zAs|exact zAn|exact zAe|exact zBK);exact rfl;exact rfl)|(refine w0' ?_)|(apply zAx;exact rfl;exact rfl;exact rfl;(with_reducible first|exact zAs|exact zAY);exact rfl;exact rfl;exact rfl;exact rfl)|(apply zAK;exact rfl)|apply zAM|refine zA6 (by kernel_rfl) (by kernel_rfl) ?_|apply en_r
        · omega
        · show i64 ((i : Int) + 1) = _;congr 1
        · rfl
      · rename_i hk
        split at h
        · rename_i ht
          split at h
          · rename_i u1 j1 h1
            split at h
            · rename_i u2 j2 h2
              injection h with h;injection h with h3 h4;subst h3;subst h4
              obtain ⟨y1,s1,hy1,hs1,e1⟩:=zEn h1
              obtain ⟨y2,s2,hy2,hs2,e2⟩:=zEn h2
              have l1:=zMV e1
              have l2:=zMV e2
              have b1:=zGH L _ _ _ _ hs1
              have b2:=zGH L _ _ _ _ hs2
              simp only [List.length_append,List.length_cons,List.length_nil] at hu
              have hc1:=zJl 75 (fun y=>decide (y.text = [45,62])) zRl zRF L (i + 1) j1 y1 s1 hy1 (by omega) (by omega) (by omega) (ih (i + 1) s1 j1 hs1 (by omega))
              have hc2:=zJl 76 (fun _=>false) zRk zRE L j1 j2 y2 s2 hy2 (by omega) (by omega) (by omega) (ih j1 s2 j2 hs2 (by omega))
              rw [← e1,show ((i + 1 : Nat) : Int) = (i : Int) + 1 by omega] at hc1
              rw [← e2] at hc2
              repeat' first | apply en_n|apply zAH|apply zAB|apply zAF|apply w0|(apply zA9;exact rfl;exact rfl;first|assumption|omega)|(refine zCx ?_)|(refine zEs ?_)|exact zFw|(refine RV_d rfl ?_ ?_)|(with_reducible exact rfl)|exact zGo rfl rfl|exact zBF rfl|exact zCv rfl|(refine zQc [0,1] [0,1] rfl rfl zJ5 (hc1) rfl ?_ rfl rfl (by decide) rfl rfl rfl rfl rfl rfl ?_;(repeat (refine zAL rfl ?_));exact zAS)|(refine zQc [0,1] [0,1] rfl rfl zJ5 (hc2) rfl ?_ rfl rfl (by decide) rfl rfl rfl rfl rfl rfl ?_;(repeat (refine zAL rfl ?_));exact zAS)|(apply zKS;exact rfl;exact rfl;(try simp only [List.length_append,List.length_cons,List.length_nil]);omega)|(apply aJ (hd:=rfl);(first|exact zAk rfl|exact Co_bb rfl rfl rfl|exact Co_nn rfl);exact rfl;(with_reducible exact zAW);assumption;omega;exact fun _=>rfl)|(apply aBox (hd:=rfl) (hro:=rfl);exact rfl;exact rfl)|(apply zA4 (hd:=rfl) (hro:=rfl);(with_reducible exact zAp))|apply ay (hd:=rfl)|exact zAE rfl|exact zAC rfl|(apply zAf;exact rfl;(with_reducible exact zAY);exact rfl)|(apply zBC;exact rfl;exact rfl)|(apply zAR;exact rfl;(with_reducible first|exact fn_0|exact fn_1|exact fn_3))|(apply zAU;exact rfl;(with_reducible first|exact zAs|exact zAn|exact zAe|exact zAv);exact rfl;exact rfl)|exact zGA rfl|(refine w0' ?_)|(apply zAx;exact rfl;exact rfl;exact rfl;(with_reducible first|exact zAs|exact zAY);exact rfl;exact rfl;exact rfl;exact rfl)|(apply zAz;exact rfl;(intro hb);rotate_left;(intro hb);rotate_right)|(apply zAQ;exact rfl)|apply zAI|apply zAP|apply zAM|refine zA6 (by kernel_rfl) (by kernel_rfl) ?_|apply en_r
              · omega
              · exact absurd ht hb
            · cases h
          · cases h
        · rename_i ht
          repeat' first | (apply Y_eqsF;exact ht;exact rfl;exact rfl)|apply en_n|apply zAH|apply zAB|apply zAF|apply w0|(apply zA9;exact rfl;exact rfl;first|assumption|omega)|exact zCv rfl|(apply aJ (hd:=rfl);(first|exact zAk rfl|exact Co_bb rfl rfl rfl|exact Co_nn rfl);exact rfl;(with_reducible exact zAW);assumption;omega;exact fun _=>rfl)|(apply aBox (hd:=rfl) (hro:=rfl);exact rfl;exact rfl)|(apply zA4 (hd:=rfl) (hro:=rfl);(with_reducible exact zAp))|apply ay (hd:=rfl)|exact zAE rfl|exact zAC rfl|(apply zAf;exact rfl;(with_reducible exact zAY);exact rfl)|(apply zBC;exact rfl;exact rfl)|(apply zAR;exact rfl;(with_reducible first|exact fn_0|exact fn_1|exact fn_3))|(apply zAU;exact rfl;(with_reducible first|exact zAs|exact zAn|exact zAe|exact zAv);exact rfl;exact rfl)|exact zGA rfl|(refine w0' ?_)|(apply zAx;exact rfl;exact rfl;exact rfl;(with_reducible first|exact zAs|exact zAY);exact rfl;exact rfl;exact rfl;exact rfl)|(apply zAQ;exact rfl)|apply zAI|apply zAP
          · omega
          generalize hf : (fun (p : List UInt8 × Nat) (_ : Nat)=>match argF (zHV n L) L (fun y=>decide (y.kids > 0)) p.2 with
            | some (u,j)=>some (p.1 ++ 32 :: u,j)
            | none=>none) = f at h
          have hf' : ∀ p m c,f p m = some c → ∃ u1 j1,argF (zHV n L) L (fun y=>decide (y.kids > 0)) p.2 = some (u1,j1) ∧ c = (p.1 ++ 32 :: u1,j1):=fun p m c hc=>by
            rw [← hf] at hc
            dsimp only at hc
            split at hc
            · rename_i u1 j1 h1
              injection hc with hc
              exact ⟨u1,j1,h1,hc.symm⟩
            · cases hc
          clear hf
          refine zAr (α:=Nat × (List UInt8 × Nat)) (fun p=>p.1 ≤ x.kids.toNat ∧ zCB f (x.text,i + 1) ((List.range x.kids.toNat).take p.1) = some p.2 ∧ i + 1 + p.1 ≤ p.2.2 ∧ p.2.2 ≤ L.length) (fun p=>[(2,.ptr 0 0),(3,.ptr 1 0),(7,.clo 74 [0,1]),(10,.d (str p.2.1)),(41,.d (i64 x.kids)),(42,.d (i64 (p.1 : Int)))])
            (fun p=>[.bx none none [.d (zAc L)],.bx none none [.d (i64 (p.2.2 : Int))]]) (fun p=>x.kids.toNat - p.1) (0,(x.text,i + 1)) ⟨Nat.zero_le _,by simp [zCB],Nat.le_refl _,by simp only;omega⟩
            (zAO (zAA rfl (zAA rfl (zAA rfl (zAA rfl (zAA rfl (zAA rfl zAa)))))) (zAD rfl rfl (zAD rfl rfl zAN)) rfl rfl) ?_
          rintro ⟨m,acc,at_⟩ ⟨hm,hfo,hp1,hp2⟩
          dsimp only at hm hfo hp1 hp2 ⊢
          rcases Nat.lt_or_ge m x.kids.toNat with hlt | hge
          · have hix : (List.range x.kids.toNat)[m]? = some m:=List.getElem?_range hlt
            obtain ⟨c,hc⟩:=zEh h (m + 1)
            have hst:=zEi hix hfo
            rw [hc] at hst
            obtain ⟨u1,j1,ha,rfl⟩:=hf' _ _ _ hst.symm
            have hlen : (acc ++ 32 :: u1).length ≤ u.length:=by
              have h2:=h
              rw [← List.take_append_drop (m + 1) (List.range x.kids.toNat),zIa,hc,Option.bind_some] at h2
              exact zEj (J:=fun p : List UInt8 × Nat=>(acc ++ 32 :: u1).length ≤ p.1.length) (fun b x c hb hc=>by
                obtain ⟨u2,j2,_,rfl⟩:=hf' _ _ _ hc
                simp only [List.length_append] at hb ⊢;omega) (Nat.le_refl _) h2
            rw [List.length_append,List.length_cons] at hlen
            obtain ⟨y1,s1,hy1,hs1,e1⟩:=zEn ha
            have l1:=zMV e1
            have b1:=zGH L _ _ _ _ hs1
            dsimp only at hy1 hs1 ha b1
            have hc1:=zJl 77 (fun y=>decide (y.kids > 0)) zRj zRD L at_ j1 y1 s1 hy1 (by omega) (by omega) (by omega) (ih at_ s1 j1 hs1 (by omega))
            rw [← e1] at hc1
            have hmk : (m : Int) < x.kids:=by omega
            repeat' first | apply en_n|apply zAH|apply zAB|apply zAF|apply w0|(apply zA5;exact rfl;exact rfl;first|assumption|omega)|exact zBF rfl|(refine zQc [0,1] [0,1] rfl rfl zJ5 (hc1) rfl ?_ rfl rfl (by decide) rfl rfl rfl rfl rfl rfl ?_;(repeat (refine zAL rfl ?_));exact zAS)|(apply zKS;exact rfl;exact rfl;(try simp only [List.length_append,List.length_cons,List.length_nil]);omega)|apply ay (hd:=rfl)|exact zAE rfl|exact zAC rfl|(apply zBC;exact rfl;exact rfl)|(apply zAK;exact rfl)|apply zAI|apply zAP|apply eb_n
            · omega
            · exact ⟨(m + 1,(acc ++ 32 :: u1,j1)),⟨hlt,hc,by simp only;omega,b1.2⟩,by show x.kids.toNat - (m + 1) < _;omega,zAO (zAA rfl (zAA rfl (zAA rfl (zAA rfl (zAA rfl (zAA rfl zAa)))))) (zAD rfl rfl (zAD rfl rfl zAN)) rfl rfl⟩
          · have e2 : (acc,at_) = (u,j):=by rw [List.take_of_length_le (by rw [List.length_range];exact hge),h] at hfo;injection hfo with hfo;exact hfo.symm
            injection e2 with e2 e3;subst e2;subst e3
            have hmk : ¬ (m : Int) < x.kids:=by omega
            repeat' first | apply en_n|apply zAH|apply zAB|apply zAF|apply w0|(apply zBq;exact rfl;exact rfl;first|assumption|omega)|(refine zCx ?_)|(refine zEs ?_)|exact zFw|(refine RV_d rfl ?_ ?_)|(with_reducible exact rfl)|apply ay (hd:=rfl)|exact zAE rfl|exact zAC rfl|(apply zAU;exact rfl;(with_reducible exact zAs);exact rfl;exact rfl)|(apply zAQ;exact rfl)|apply zAM|apply zAt|refine zA6 (by kernel_rfl) (by kernel_rfl) ?_|apply en_e|apply eb_e
            all_goals rfl
end Go.Proofs.YtblomnkamngnbaaGreatDoor
namespace Go.Proofs.YtblomnkamngnbaaGreatDoor
open Go.Sx
attribute [local irreducible] zAT Program.underlying Ylds zBA alex zBe zBP awp zAj zBZ zBk zA2 zBH zBR zA8 zBV zBb zBf zBu zBO
theorem zTv (L : List Nd) (hL : L.length ≤ 1000000) (hnum : ∀ x ∈ L,0 ≤ x.num ∧ x.num ≤ 9223372036854775807) (hc : ckT L = 0) (n : Nat) (u : List UInt8) (j : Nat) (h : zHV n L 0 = some (u,j)) (hu : u.length ≤ 1000000) :
    zAj Tryz.prog 18 [zAc L] (.tup [str u,i64 0]):=by
  have hs:=zO2 L hL hnum n 0 u j h hu
  have hL2 : L.length ≤ 2000000:=by omega
  refine zIE Tryz.func18 rfl Tryz.ntmps18 Tryz.results18 rfl ?_
  intro wb St0
  repeat' first | apply en_n|apply zAH|apply zAB|apply zAF|apply w0|(apply zBU;exact rfl;exact rfl;first|assumption|omega)|(refine zCx ?_)|(refine zEs ?_)|exact zFw|(refine RV_d rfl ?_ ?_)|(with_reducible exact rfl)|(apply zAV (hb:=zCK) (hc:=zCR L hL2);exact zAX rfl zAG)|(apply zAV (hb:=zMH) (hc:=hs);exact zAX rfl (zAX rfl zAG))|apply ay (hd:=rfl)|exact zAE rfl|exact zAC rfl|exact zBQ rfl rfl|(apply zAQ;exact rfl)|apply zAP|apply zAM
  all_goals rfl
end Go.Proofs.YtblomnkamngnbaaGreatDoor
namespace Go.Proofs.YtblomnkamngnbaaGreatDoor
open Go.Sx Go.RowKit
theorem zG7 : zAT Tryz.prog 5 = true:=by kernel_rfl
def runF (E : List Sg) (t : Tr) (q : Nat) : Option (List Nd × Int):=match t.expS q E [] TS0 with
  | some (u,S1)=>(match zEd q S1 u with
    | some (r,S2)=>if S2.er = 0 then (if okT r then some (zCm r,0) else none) else some ([],S2.er)
    | none=>none)
  | none=>none
theorem IR.of_run {E : List Sg} {t : Tr} {q : Nat} {r : List Nd} {e : Int} (hw : t.wf) (hc : chkT t false = 0) (he : envF E = true) (hn : nmdF E t.fl (zF6 t) = true) (h : runF E t q = some (r,e)) : IR E t.fl r e:=by
  unfold runF at h
  split at h
  · rename_i u S1 h1
    split at h
    · rename_i r' S2 h2
      split at h
      · rename_i h0
        split at h
        · rename_i ho
          injection h with h;injection h with e1 e2;subst e1;subst e2
          have:=IR.run (E:=E) t q u r' S1 S2 hw hc he hn h1 h2 fun _=>ho
          rw [if_pos h0,h0] at this;exact this
        · cases h
      · rename_i h0
        injection h with h;injection h with e1 e2;subst e1;subst e2
        have:=IR.run (E:=E) t q u r' S1 S2 hw hc he hn h1 h2 fun c=>absurd c h0
        rw [if_neg h0] at this;exact this
    · cases h
  · cases h
def iT : Tr:=.mk ⟨5,[120],0,1⟩ [.mk ⟨3,[120],0,0⟩ []]
def vT : Tr:=.mk ⟨3,[105],0,0⟩ []
def pT : Tr:=.mk ⟨6,[],0,2⟩ [vT,vT]
def lT : Tr:=.mk ⟨7,[105],0,2⟩ [iT,pT]
def iiT : List Nd:=[⟨32,arrT,0,2⟩,⟨31,[],0,0⟩,⟨31,[],0,0⟩]
theorem zVV : lT.fl = zPX ⟨7,[105],0,0⟩ [iT.fl,zPX ⟨6,[],0,0⟩ [vT.fl,vT.fl]]:=by decide +kernel
theorem zUW : iT.wf:=by simp [iT,Tr.wf,wfL]
theorem zVQ : vT.wf:=by simp [vT,Tr.wf,wfL]
theorem zUP : lT.wf:=by simp [lT,pT,iT,vT,Tr.wf,wfL]
theorem zVd : chkT iT false = 0:=by decide +kernel
theorem zVS : chkT vT false = 0:=by decide +kernel
theorem zVW : chkT lT false = 0:=by decide +kernel
theorem zRz : envF [] = true:=rfl
theorem zVc : nmdF [] iT.fl (zF6 iT) = true:=by decide +kernel
theorem zVR : nmdF [] vT.fl (zF6 vT) = false:=by decide +kernel
theorem zVU : nmdF [] lT.fl (zF6 lT) = true:=by decide +kernel
theorem zUY : runF [] iT 10 = some (iiT,0):=by decide +kernel
theorem zUR : runF [] lT 20 = some (iiT,0):=by decide +kernel
theorem iT_ir : IR [] iT.fl iiT 0:=.of_run zUW zVd zRz zVc zUY
theorem lT_ir : IR [] lT.fl iiT 0:=.of_run zUP zVW zRz zVU zUR
theorem vT_ir : IR [] vT.fl [] 111:=.name vT zVQ zVS zRz zVR
theorem zUX : zMl iT = true:=by decide +kernel
theorem zUQ : zMl lT = false:=by decide +kernel
def iiS : List UInt8:=[39,48,32,45,62,32,39,48]
theorem zVX : Lib.itoa 0 = [48]:=by rw [Lib.itoa,if_neg (by decide),show (0 : Int).toNat = 0 from rfl,Lib.decDigits_one (by decide)];rfl
theorem zVa : zHV 10 iiT 0 = some (iiS,3):=by
  simp [zHV,argF,zVX,iiT,arrT,iiS]
theorem zVb : ckT iiT = 0:=by decide +kernel
attribute [local irreducible] zAT Program.underlying Ylds zBA alex zBe zBP awp zAj zBZ zBk zA2 zBH zBR zA8 zBV zBb zBf zBu zBO
set_option maxHeartbeats 8000000 in
theorem zG5 : zAj Tryz.prog 5 [] (bl true):=by
  have h1:=iT_ir.call (by decide) (by decide) (fun s hs=>absurd hs List.not_mem_nil)
  have h2:=lT_ir.call (by decide) (by decide) (fun s hs=>absurd hs List.not_mem_nil)
  have h3:=vT_ir.call (by decide) (by decide) (fun s hs=>absurd hs List.not_mem_nil)
  have h4:=zTv iiT (by decide) (by decide) zVb 10 iiS 3 zVa (by decide)
  have h5:=zQq ⟨6,[],0,0⟩ [vT.fl,vT.fl] (by simp) (by decide)
  have h6:=zQq ⟨7,[105],0,0⟩ [iT.fl,zPX ⟨6,[],0,0⟩ [vT.fl,vT.fl]] (by simp) (by decide)
  rw [← zVV] at h6
  have h7:=zTw iiT iiT (by decide)
  rw [decide_eq_true rfl] at h7
  have h8:=zIP iT zUW (by decide)
  rw [zUX] at h8
  have h9:=zIP lT zUP (by decide)
  rw [zUQ] at h9
  have h10:=zFK [] (by decide) (fun s hs=>absurd hs List.not_mem_nil)
  rw [zRz,if_pos rfl] at h10
  refine zAd Tryz.func5 rfl Tryz.ntmps5 Tryz.results5 rfl ?_
  intro wb St0
  repeat' first | apply en_n|apply zAH|apply zAB|apply zAF|apply w0|exact zBD rfl rfl rfl|exact zGo rfl rfl|(refine zBE (cs:=Nd.cells ⟨5,[120],0,1⟩) zFF zAp (PD_d rfl rfl (PD_d rfl rfl (PD_d rfl rfl zB0))) rfl)|(refine zBE (cs:=Nd.cells ⟨3,[120],0,0⟩) zFF zAp (PD_d rfl rfl (PD_d rfl rfl zB0)) rfl)|(refine zBE (cs:=Nd.cells ⟨3,[105],0,0⟩) zFF zAp (PD_d rfl rfl (PD_d rfl rfl zB0)) rfl)|(refine zBE (cs:=Nd.cells ⟨7,[105],0,0⟩) zFF zAp (PD_d rfl rfl (PD_d rfl rfl zB0)) rfl)|(refine zBE (cs:=Nd.cells ⟨6,[],0,0⟩) zFF zAp (PD_d rfl rfl zB0) rfl)|(refine zAV zKC h1 (zDG rfl (zAX rfl zAG)))|(refine zAV zKC h2 (zDG rfl (zAX rfl zAG)))|(refine zAV zKC h3 (zDG rfl (zAX rfl zAG)))|(refine zAV zTP h4 (zAX rfl zAG))|(refine zAV zPr h5 (zAX rfl (zAX rfl zAG)))|(refine zAV zPr h6 (zAX rfl (zAX rfl zAG)))|(refine zAV zTQ h7 (zAX rfl (zAX rfl zAG)))|(refine zAV zGb h8 (zAX rfl zAG))|(refine zAV zGb h9 (zAX rfl zAG))|(refine zAV zEB h10 (zDG rfl zAG))|apply ay (hd:=rfl)|exact zAE rfl|exact zAC rfl|exact zBr rfl|exact zAi rfl rfl|exact zBQ rfl rfl|(apply zCC;(with_reducible exact zBd);(with_reducible exact zAW);(with_reducible exact zDQ);exact rfl;exact rfl;(first|exact zAX rfl zAG|exact zC4 rfl rfl rfl zAG|exact zDG rfl zAG);exact rfl)|(apply zU8;(with_reducible first|exact zBd|exact zD1);(with_reducible first|exact zAW|exact zCS);(with_reducible first|exact zDQ|exact zHb);exact rfl;exact rfl;(first|exact zAX rfl (zAX rfl zAG)|exact zC4 rfl rfl rfl (zC4 rfl rfl rfl zAG));exact rfl)|(apply w1;exact rfl;exact rfl)|apply zAM|apply zAJ|(apply res1;exact rfl)
  all_goals rfl
end Go.Proofs.YtblomnkamngnbaaGreatDoor
