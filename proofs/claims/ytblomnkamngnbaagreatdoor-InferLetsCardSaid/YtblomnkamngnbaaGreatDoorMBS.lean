/- Texts of this claim, merged: TypN, TypO, InfYC, RefS, TypYE, RefD. -/
import Derived.Test.YtblomnkamngnbaaGreatDoorMAB
import Derived.Test.YtblomnkamngnbaaGreatDoorMAD
import Derived.Test.YtblomnkamngnbaaGreatDoorMAE
import Derived.Test.YtblomnkamngnbaaGreatDoorMAI
import Derived.Test.YtblomnkamngnbaaGreatDoorMAO
import Derived.Test.YtblomnkamngnbaaGreatDoorMAX
import Derived.Test.YtblomnkamngnbaaGreatDoorMAZ
import Derived.Test.YtblomnkamngnbaaGreatDoorMBE
import Derived.Test.YtblomnkamngnbaaGreatDoorMBQ
import Derived.Test.YtblomnkamngnbaaGreatDoorMBR
namespace Go.Proofs.YtblomnkamngnbaaGreatDoor
open Go.Sx
theorem Y_eqsF {P : Program} {η : List Ob} {σ : Sl} {dst : Option Nat} {ty : TypeId} {pos : String} {after : Array Edge} {gd : Option (Nat × Bool)} {t yt : TypeId} {x y : Operand} {u v : List UInt8} (h : u ≠ v) (hx : oval σ x = .d (str u)) (hy : oval σ y = .d (str v)) :
    Ylds P η σ ⟨dst,.binOp .eql t x y yt,ty,pos,after,gd⟩ (.d (.val (.bool false))):=by
  have:=zHa (P:=P) (η:=η) (σ:=σ) (dst:=dst) (ty:=ty) (pos:=pos) (after:=after) (gd:=gd) (t:=t) (yt:=yt) hx hy
  rwa [decide_eq_false h] at this
theorem zM6 {s u : List UInt8} {b : Bool} (h : u = (if b then 40 :: s ++ [41] else s)) : s.length ≤ u.length:=by
  subst h;cases b <;> simp;omega
attribute [local irreducible] zAO Program.underlying Ylds zA3 alex zBY zBN awp zAm zBT zBe zAx zBA zBP zA2 zBR zBX zBa zBq zBI
set_option maxHeartbeats 4000000 in
theorem zPn (L : List Nd) (hL : L.length ≤ 1000000) (hnum : ∀ x ∈ L,0 ≤ x.num ∧ x.num ≤ 9223372036854775807) : ∀ (n i : Nat) (u : List UInt8) (j : Nat),zHk n L i = some (u,j) → u.length ≤ 1000000 →
    zAm Tryz.prog 41 [zAc L,i64 (i : Int)] (.tup [str u,i64 (j : Int)])
  | 0,_,_,_,h,_=>by cases h
  | n + 1,i,u,j,h,hu=>by
    have ih:=zPn L hL hnum n
    have hle:=zGf L (n + 1) i u j h
    unfold zHk at h
    split at h
    · cases h
    · rename_i x hx
      have hi:=(List.getElem?_eq_some_iff.1 hx).1
      have hxn:=hnum x (List.mem_of_getElem? hx)
      refine zIR Tryz.func41 rfl Tryz.ntmps41 Tryz.results41 rfl ?_
      intro wb St0
      split at h
      · rename_i hk
        injection h with h;injection h with h1 h2;subst h1;subst h2
        repeat' first | apply en_n|apply zAH|apply zAC|apply zAF|apply w0|(apply zBV;exact rfl;exact rfl;first|assumption|omega)|(refine zC8 ?_)|(refine zE5 ?_)|exact zGK|(refine RV_d rfl ?_ ?_)|(apply zAX (hb:=zLj) (hc:=zMQ x.num (by omega) (by omega));exact zAZ rfl (zAZ rfl zAG))|(apply zKr;exact rfl;exact rfl;simp only [List.length_cons,List.length_nil] at hu ⊢;omega)|(apply aJ (hd:=rfl);(first|exact zAn rfl|exact Co_bb rfl rfl rfl|exact Co_nn rfl);exact rfl;(with_reducible exact zAa);assumption;omega;exact fun _=>rfl)|(apply aBox (hd:=rfl) (hro:=rfl);exact rfl;exact rfl)|(apply zBE (hd:=rfl) (hro:=rfl);(with_reducible exact zAp))|apply ay (hd:=rfl)|exact zAD rfl|(apply zAf;exact rfl;(with_reducible exact zAb);exact rfl)|(apply zBG;exact rfl;exact rfl)|(apply zAS;exact rfl;(with_reducible first|exact fn_0|exact fn_2))|(apply zAV;exact rfl;(with_reducible first|exact zAz|exact zAg|exact zAk|exact zB4);exact rfl;exact rfl)|(refine w0' ?_)|(apply zA0;exact rfl;exact rfl;exact rfl;(with_reducible first|exact zAz|exact zAb);exact rfl;exact rfl;exact rfl;exact rfl)|(apply zAQ;exact rfl)|apply zAN|refine zBQ (by kernel_rfl) (by kernel_rfl) ?_|apply en_r
        · omega
        · show i64 ((i : Int) + 1) = _;congr 1
        · rfl
      · rename_i hk
        split at h
        · rename_i ht
          split at h
          · rename_i u1 j1 h1
            split at h
            · rename_i u2 j2 h2
              injection h with h;injection h with h3 h4;subst h3;subst h4
              obtain ⟨y1,s1,hy1,hs1,e1⟩:=zEz h1
              obtain ⟨y2,s2,hy2,hs2,e2⟩:=zEz h2
              have l1:=zM6 e1
              have l2:=zM6 e2
              have b1:=zGf L _ _ _ _ hs1
              have b2:=zGf L _ _ _ _ hs2
              simp only [List.length_append,List.length_cons,List.length_nil] at hu
              have hc1:=zJz 75 (fun y=>decide (y.text = [45,62])) zSm zSE L (i + 1) j1 y1 s1 hy1 (by omega) (by omega) (by omega) (ih (i + 1) s1 j1 hs1 (by omega))
              have hc2:=zJz 76 (fun _=>false) zSl zSD L j1 j2 y2 s2 hy2 (by omega) (by omega) (by omega) (ih j1 s2 j2 hs2 (by omega))
              rw [← e1,show ((i + 1 : Nat) : Int) = (i : Int) + 1 by omega] at hc1
              rw [← e2] at hc2
              repeat' first | apply en_n|apply zAH|apply zAC|apply zAF|apply w0|(apply zBW;exact rfl;exact rfl;first|assumption|omega)|(refine zC8 ?_)|(refine zE5 ?_)|exact zGK|(refine RV_d rfl ?_ ?_)|(with_reducible exact rfl)|exact zHa rfl rfl|exact zA8 rfl|exact zC4 rfl|(refine zRW [0,1] [0,1] rfl rfl zKN (hc1) rfl ?_ rfl rfl (by decide) rfl rfl rfl rfl rfl rfl ?_;(repeat (refine zAI rfl ?_));exact zAM)|(refine zRW [0,1] [0,1] rfl rfl zKN (hc2) rfl ?_ rfl rfl (by decide) rfl rfl rfl rfl rfl rfl ?_;(repeat (refine zAI rfl ?_));exact zAM)|(apply zKr;exact rfl;exact rfl;(try simp only [List.length_append,List.length_cons,List.length_nil]);omega)|(apply aJ (hd:=rfl);(first|exact zAn rfl|exact Co_bb rfl rfl rfl|exact Co_nn rfl);exact rfl;(with_reducible exact zAa);assumption;omega;exact fun _=>rfl)|(apply aBox (hd:=rfl) (hro:=rfl);exact rfl;exact rfl)|(apply zBE (hd:=rfl) (hro:=rfl);(with_reducible exact zAp))|apply ay (hd:=rfl)|exact zAE rfl|exact zAD rfl|(apply zAf;exact rfl;(with_reducible exact zAb);exact rfl)|(apply zBG;exact rfl;exact rfl)|(apply zAS;exact rfl;(with_reducible first|exact fn_0|exact fn_1|exact fn_3))|(apply zAV;exact rfl;(with_reducible first|exact zAz|exact zAg|exact zAk|exact zA4);exact rfl;exact rfl)|exact zGV rfl|(refine w0' ?_)|(apply zA0;exact rfl;exact rfl;exact rfl;(with_reducible first|exact zAz|exact zAb);exact rfl;exact rfl;exact rfl;exact rfl)|(apply zA1;exact rfl;(intro hb);rotate_left;(intro hb);rotate_right)|(apply zAU;exact rfl)|apply zAJ|apply zAT|apply zAN|refine zBQ (by kernel_rfl) (by kernel_rfl) ?_|apply en_r
              · omega
              · exact absurd ht hb
            · cases h
          · cases h
        · rename_i ht
          repeat' first | (apply Y_eqsF;exact ht;exact rfl;exact rfl)|apply en_n|apply zAH|apply zAC|apply zAF|apply w0|(apply zBW;exact rfl;exact rfl;first|assumption|omega)|exact zC4 rfl|(apply aJ (hd:=rfl);(first|exact zAn rfl|exact Co_bb rfl rfl rfl|exact Co_nn rfl);exact rfl;(with_reducible exact zAa);assumption;omega;exact fun _=>rfl)|(apply aBox (hd:=rfl) (hro:=rfl);exact rfl;exact rfl)|(apply zBE (hd:=rfl) (hro:=rfl);(with_reducible exact zAp))|apply ay (hd:=rfl)|exact zAE rfl|exact zAD rfl|(apply zAf;exact rfl;(with_reducible exact zAb);exact rfl)|(apply zBG;exact rfl;exact rfl)|(apply zAS;exact rfl;(with_reducible first|exact fn_0|exact fn_1|exact fn_3))|(apply zAV;exact rfl;(with_reducible first|exact zAz|exact zAg|exact zAk|exact zA4);exact rfl;exact rfl)|exact zGV rfl|(refine w0' ?_)|(apply zA0;exact rfl;exact rfl;exact rfl;(with_reducible first|exact zAz|exact zAb);exact rfl;exact rfl;exact rfl;exact rfl)|(apply zAU;exact rfl)|apply zAJ|apply zAT
          · omega
          generalize hf : (fun (p : List UInt8 × Nat) (_ : Nat)=>match argF (zHk n L) L (fun y=>decide (y.kids > 0)) p.2 with
            | some (u,j)=>some (p.1 ++ 32 :: u,j)
            | none=>none) = f at h
          have hf' : ∀ p m c,f p m = some c → ∃ u1 j1,argF (zHk n L) L (fun y=>decide (y.kids > 0)) p.2 = some (u1,j1) ∧ c = (p.1 ++ 32 :: u1,j1):=fun p m c hc=>by
            rw [← hf] at hc
            dsimp only at hc
            split at hc
            · rename_i u1 j1 h1
              injection hc with hc
              exact ⟨u1,j1,h1,hc.symm⟩
            · cases hc
          clear hf
          refine zAs (α:=Nat × (List UInt8 × Nat)) (fun p=>p.1 ≤ x.kids.toNat ∧ zBc f (x.text,i + 1) ((List.range x.kids.toNat).take p.1) = some p.2 ∧ i + 1 + p.1 ≤ p.2.2 ∧ p.2.2 ≤ L.length) (fun p=>[(2,.ptr 0 0),(3,.ptr 1 0),(7,.clo 74 [0,1]),(10,.d (str p.2.1)),(41,.d (i64 x.kids)),(42,.d (i64 (p.1 : Int)))])
            (fun p=>[.bx none none [.d (zAc L)],.bx none none [.d (i64 (p.2.2 : Int))]]) (fun p=>x.kids.toNat - p.1) (0,(x.text,i + 1)) ⟨Nat.zero_le _,by simp [zBc],Nat.le_refl _,by simp only;omega⟩
            (zAL (zAA rfl (zAA rfl (zAA rfl (zAA rfl (zAA rfl (zAA rfl zAW)))))) (zAB rfl rfl (zAB rfl rfl zAK)) rfl rfl) ?_
          rintro ⟨m,acc,at_⟩ ⟨hm,hfo,hp1,hp2⟩
          dsimp only at hm hfo hp1 hp2 ⊢
          rcases Nat.lt_or_ge m x.kids.toNat with hlt | hge
          · have hix : (List.range x.kids.toNat)[m]? = some m:=List.getElem?_range hlt
            obtain ⟨c,hc⟩:=zEr h (m + 1)
            have hst:=zEs hix hfo
            rw [hc] at hst
            obtain ⟨u1,j1,ha,rfl⟩:=hf' _ _ _ hst.symm
            have hlen : (acc ++ 32 :: u1).length ≤ u.length:=by
              have h2:=h
              rw [← List.take_append_drop (m + 1) (List.range x.kids.toNat),zIq,hc,Option.bind_some] at h2
              exact zEt (J:=fun p : List UInt8 × Nat=>(acc ++ 32 :: u1).length ≤ p.1.length) (fun b x c hb hc=>by
                obtain ⟨u2,j2,_,rfl⟩:=hf' _ _ _ hc
                simp only [List.length_append] at hb ⊢;omega) (Nat.le_refl _) h2
            rw [List.length_append,List.length_cons] at hlen
            obtain ⟨y1,s1,hy1,hs1,e1⟩:=zEz ha
            have l1:=zM6 e1
            have b1:=zGf L _ _ _ _ hs1
            dsimp only at hy1 hs1 ha b1
            have hc1:=zJz 77 (fun y=>decide (y.kids > 0)) zSk zSC L at_ j1 y1 s1 hy1 (by omega) (by omega) (by omega) (ih at_ s1 j1 hs1 (by omega))
            rw [← e1] at hc1
            have hmk : (m : Int) < x.kids:=by omega
            repeat' first | apply en_n|apply zAH|apply zAC|apply zAF|apply w0|(apply zBK;exact rfl;exact rfl;first|assumption|omega)|exact zA8 rfl|(refine zRW [0,1] [0,1] rfl rfl zKN (hc1) rfl ?_ rfl rfl (by decide) rfl rfl rfl rfl rfl rfl ?_;(repeat (refine zAI rfl ?_));exact zAM)|(apply zKr;exact rfl;exact rfl;(try simp only [List.length_append,List.length_cons,List.length_nil]);omega)|apply ay (hd:=rfl)|exact zAE rfl|exact zAD rfl|(apply zBG;exact rfl;exact rfl)|(apply zAQ;exact rfl)|apply zAJ|apply zAT|apply eb_n
            · omega
            · exact ⟨(m + 1,(acc ++ 32 :: u1,j1)),⟨hlt,hc,by simp only;omega,b1.2⟩,by show x.kids.toNat - (m + 1) < _;omega,zAL (zAA rfl (zAA rfl (zAA rfl (zAA rfl (zAA rfl (zAA rfl zAW)))))) (zAB rfl rfl (zAB rfl rfl zAK)) rfl rfl⟩
          · have e2 : (acc,at_) = (u,j):=by rw [List.take_of_length_le (by rw [List.length_range];exact hge),h] at hfo;injection hfo with hfo;exact hfo.symm
            injection e2 with e2 e3;subst e2;subst e3
            have hmk : ¬ (m : Int) < x.kids:=by omega
            repeat' first | apply en_n|apply zAH|apply zAC|apply zAF|apply w0|(apply zCJ;exact rfl;exact rfl;first|assumption|omega)|(refine zC8 ?_)|(refine zE5 ?_)|exact zGK|(refine RV_d rfl ?_ ?_)|(with_reducible exact rfl)|apply ay (hd:=rfl)|exact zAE rfl|exact zAD rfl|(apply zAV;exact rfl;(with_reducible exact zAz);exact rfl;exact rfl)|(apply zAU;exact rfl)|apply zAN|apply zAu|refine zBQ (by kernel_rfl) (by kernel_rfl) ?_|apply en_e|apply eb_e
            all_goals rfl
end Go.Proofs.YtblomnkamngnbaaGreatDoor
namespace Go.Proofs.YtblomnkamngnbaaGreatDoor
open Go.Sx
attribute [local irreducible] zAO Program.underlying Ylds zA3 alex zBY zBN awp zAm zBT zBe zAx zBA zBP zA2 zBR zBX zBa zBq zBI
theorem zU1 (L : List Nd) (hL : L.length ≤ 1000000) (hnum : ∀ x ∈ L,0 ≤ x.num ∧ x.num ≤ 9223372036854775807) (hc : ckT L = 0) (n : Nat) (u : List UInt8) (j : Nat) (h : zHk n L 0 = some (u,j)) (hu : u.length ≤ 1000000) :
    zAm Tryz.prog 18 [zAc L] (.tup [str u,i64 0]):=by
  have hs:=zPn L hL hnum n 0 u j h hu
  have hL2 : L.length ≤ 2000000:=by omega
  refine zIR Tryz.func18 rfl Tryz.ntmps18 Tryz.results18 rfl ?_
  intro wb St0
  repeat' first | apply en_n|apply zAH|apply zAC|apply zAF|apply w0|(apply zBm;exact rfl;exact rfl;first|assumption|omega)|(refine zC8 ?_)|(refine zE5 ?_)|exact zGK|(refine RV_d rfl ?_ ?_)|(with_reducible exact rfl)|(apply zAX (hb:=zCR) (hc:=zCb L hL2);exact zAZ rfl zAG)|(apply zAX (hb:=zMq) (hc:=hs);exact zAZ rfl (zAZ rfl zAG))|apply ay (hd:=rfl)|exact zAE rfl|exact zAD rfl|exact zBM rfl rfl|(apply zAU;exact rfl)|apply zAT|apply zAN
  all_goals rfl
end Go.Proofs.YtblomnkamngnbaaGreatDoor
namespace Go.Proofs.YtblomnkamngnbaaGreatDoor
open Go.Sx Go.RowKit
theorem zDN : zAO Tryz.prog 5 = true:=by kernel_rfl
def runF (E : List Sg) (t : Tr) (q : Nat) : Option (List Nd × Int):=match t.expS q E [] TS0 with
  | some (u,S1)=>(match zCI q S1 u with
    | some (r,S2)=>if S2.er = 0 then (if okT r then some (zB2 r,0) else none) else some ([],S2.er)
    | none=>none)
  | none=>none
theorem IR.of_run {E : List Sg} {t : Tr} {q : Nat} {r : List Nd} {e : Int} (hw : t.wf) (hc : chkT t false = 0) (he : envF E = true) (hn : nmdF E t.fl (zDa t) = true) (h : runF E t q = some (r,e)) : IR E t.fl r e:=by
  unfold runF at h
  split at h
  · rename_i u S1 h1
    split at h
    · rename_i r' S2 h2
      split at h
      · rename_i h0
        split at h
        · rename_i ho
          injection h with h;injection h with e1 e2;subst e1;subst e2
          have:=IR.run (E:=E) t q u r' S1 S2 hw hc he hn h1 h2 fun _=>ho
          rw [if_pos h0,h0] at this;exact this
        · cases h
      · rename_i h0
        injection h with h;injection h with e1 e2;subst e1;subst e2
        have:=IR.run (E:=E) t q u r' S1 S2 hw hc he hn h1 h2 fun c=>absurd c h0
        rw [if_neg h0] at this;exact this
    · cases h
  · cases h
def iT : Tr:=.mk ⟨5,[120],0,1⟩ [.mk ⟨3,[120],0,0⟩ []]
def vT : Tr:=.mk ⟨3,[105],0,0⟩ []
def pT : Tr:=.mk ⟨6,[],0,2⟩ [vT,vT]
def lT : Tr:=.mk ⟨7,[105],0,2⟩ [iT,pT]
def iiT : List Nd:=[⟨32,arrT,0,2⟩,⟨31,[],0,0⟩,⟨31,[],0,0⟩]
theorem zWX : lT.fl = zMi ⟨7,[105],0,0⟩ [iT.fl,zMi ⟨6,[],0,0⟩ [vT.fl,vT.fl]]:=by decide +kernel
theorem zVY : iT.wf:=by simp [iT,Tr.wf,wfL]
theorem zWS : vT.wf:=by simp [vT,Tr.wf,wfL]
theorem zVS : lT.wf:=by simp [lT,pT,iT,vT,Tr.wf,wfL]
theorem zWf : chkT iT false = 0:=by decide +kernel
theorem zWU : chkT vT false = 0:=by decide +kernel
theorem zWY : chkT lT false = 0:=by decide +kernel
theorem zS3 : envF [] = true:=rfl
theorem zWe : nmdF [] iT.fl (zDa iT) = true:=by decide +kernel
theorem zWT : nmdF [] vT.fl (zDa vT) = false:=by decide +kernel
theorem zWW : nmdF [] lT.fl (zDa lT) = true:=by decide +kernel
theorem zVa : runF [] iT 10 = some (iiT,0):=by decide +kernel
theorem zVU : runF [] lT 20 = some (iiT,0):=by decide +kernel
theorem iT_ir : IR [] iT.fl iiT 0:=.of_run zVY zWf zS3 zWe zVa
theorem lT_ir : IR [] lT.fl iiT 0:=.of_run zVS zWY zS3 zWW zVU
theorem vT_ir : IR [] vT.fl [] 111:=.name vT zWS zWU zS3 zWT
theorem zVZ : zIC iT = true:=by decide +kernel
theorem zVT : zIC lT = false:=by decide +kernel
def iiS : List UInt8:=[39,48,32,45,62,32,39,48]
theorem zWZ : Lib.itoa 0 = [48]:=by rw [Lib.itoa,if_neg (by decide),show (0 : Int).toNat = 0 from rfl,Lib.decDigits_one (by decide)];rfl
theorem zWc : zHk 10 iiT 0 = some (iiS,3):=by
  simp [zHk,argF,zWZ,iiT,arrT,iiS]
theorem zWd : ckT iiT = 0:=by decide +kernel
attribute [local irreducible] zAO Program.underlying Ylds zA3 alex zBY zBN awp zAm zBT zBe zAx zBA zBP zA2 zBR zBX zBa zBq zBI
set_option maxHeartbeats 8000000 in
theorem zDM : zAm Tryz.prog 5 [] (bl true):=by
  have h1:=iT_ir.call (by decide) (by decide) (fun s hs=>absurd hs List.not_mem_nil)
  have h2:=lT_ir.call (by decide) (by decide) (fun s hs=>absurd hs List.not_mem_nil)
  have h3:=vT_ir.call (by decide) (by decide) (fun s hs=>absurd hs List.not_mem_nil)
  have h4:=zU1 iiT (by decide) (by decide) zWd 10 iiS 3 zWc (by decide)
  have h5:=zNC ⟨6,[],0,0⟩ [vT.fl,vT.fl] (by simp) (by decide)
  have h6:=zNC ⟨7,[105],0,0⟩ [iT.fl,zMi ⟨6,[],0,0⟩ [vT.fl,vT.fl]] (by simp) (by decide)
  rw [← zWX] at h6
  have h7:=zRk iiT iiT (by decide)
  rw [decide_eq_true rfl] at h7
  have h8:=zIe iT zVY (by decide)
  rw [zVZ] at h8
  have h9:=zIe lT zVS (by decide)
  rw [zVT] at h9
  have h10:=zGw [] (by decide) (fun s hs=>absurd hs List.not_mem_nil)
  rw [zS3,if_pos rfl] at h10
  refine zAd Tryz.func5 rfl Tryz.ntmps5 Tryz.results5 rfl ?_
  intro wb St0
  repeat' first | apply en_n|apply zAH|apply zAC|apply zAF|apply w0|exact zBV rfl rfl rfl|exact zHa rfl rfl|(refine zBS (cs:=Nd.cells ⟨5,[120],0,1⟩) zEd zAp (PD_d rfl rfl (PD_d rfl rfl (PD_d rfl rfl zCF))) rfl)|(refine zBS (cs:=Nd.cells ⟨3,[120],0,0⟩) zEd zAp (PD_d rfl rfl (PD_d rfl rfl zCF)) rfl)|(refine zBS (cs:=Nd.cells ⟨3,[105],0,0⟩) zEd zAp (PD_d rfl rfl (PD_d rfl rfl zCF)) rfl)|(refine zBS (cs:=Nd.cells ⟨7,[105],0,0⟩) zEd zAp (PD_d rfl rfl (PD_d rfl rfl zCF)) rfl)|(refine zBS (cs:=Nd.cells ⟨6,[],0,0⟩) zEd zAp (PD_d rfl rfl zCF) rfl)|(refine zAX zEU h1 (zCs rfl (zAZ rfl zAG)))|(refine zAX zEU h2 (zCs rfl (zAZ rfl zAG)))|(refine zAX zEU h3 (zCs rfl (zAZ rfl zAG)))|(refine zAX zUX h4 (zAZ rfl zAG))|(refine zAX zKU h5 (zAZ rfl (zAZ rfl zAG)))|(refine zAX zKU h6 (zAZ rfl (zAZ rfl zAG)))|(refine zAX zQh h7 (zAZ rfl (zAZ rfl zAG)))|(refine zAX zFi h8 (zAZ rfl zAG))|(refine zAX zFi h9 (zAZ rfl zAG))|(refine zAX zFj h10 (zCs rfl zAG))|apply ay (hd:=rfl)|exact zAE rfl|exact zAD rfl|exact zCS rfl|exact zAq rfl rfl|exact zBM rfl rfl|(apply zCD;(with_reducible exact zBl);(with_reducible exact zAa);(with_reducible exact zDr);exact rfl;exact rfl;(first|exact zAZ rfl zAG|exact zCo rfl rfl rfl zAG|exact zCs rfl zAG);exact rfl)|(apply zRg;(with_reducible first|exact zBl|exact zEE);(with_reducible first|exact zAa|exact zCf);(with_reducible first|exact zDr|exact zGX);exact rfl;exact rfl;(first|exact zAZ rfl (zAZ rfl zAG)|exact zCo rfl rfl rfl (zCo rfl rfl rfl zAG));exact rfl)|(apply w1;exact rfl;exact rfl)|apply zAN|apply zAP|(apply res1;exact rfl)
  all_goals rfl
end Go.Proofs.YtblomnkamngnbaaGreatDoor
namespace Go.Sx
section
variable {P : Program} {η : List Ob} {σ : Sl} {dst : Option Nat} {ty : TypeId} {pos : String} {after : Array Edge} {gd : Option (Nat × Bool)} {t : TypeId} {x y : Operand}
theorem zUu {yt : TypeId} {a b : List UInt8} (hx : oval σ x = .d (str a)) (hy : oval σ y = .d (str b)) (h : ¬ a = b) : Ylds P η σ ⟨dst,.binOp .neq t x y yt,ty,pos,after,gd⟩ (.d (.val (.bool true))):=by
  have:=zJn (P:=P) (η:=η) (dst:=dst) (ty:=ty) (pos:=pos) (after:=after) (gd:=gd) (t:=t) (yt:=yt) hx hy;rwa [decide_eq_true h] at this
theorem zUv {yt : TypeId} {a b : List UInt8} (hx : oval σ x = .d (str a)) (hy : oval σ y = .d (str b)) (h : a = b) : Ylds P η σ ⟨dst,.binOp .neq t x y yt,ty,pos,after,gd⟩ (.d (.val (.bool false))):=by
  have:=zJn (P:=P) (η:=η) (dst:=dst) (ty:=ty) (pos:=pos) (after:=after) (gd:=gd) (t:=t) (yt:=yt) hx hy;rwa [decide_eq_false (fun c=>c h)] at this
end
end Go.Sx
namespace Go.Proofs.YtblomnkamngnbaaGreatDoor
open Go.Sx
attribute [local irreducible] zAO Program.underlying Ylds zA3 alex zBY zBN awp zAm zBT zBe zAx zBA zBP zA2 zBR zBX zBa zBq zBI
end Go.Proofs.YtblomnkamngnbaaGreatDoor
namespace Go.Proofs.YtblomnkamngnbaaGreatDoor
open Go.Sx Go.RowKit
theorem zCE : zAO Tryz.prog 6 = true:=by kernel_rfl
attribute [local irreducible] zAO Program.underlying Ylds zA3 alex zBY zBN awp zAm zBT zBe zAx zBA zBP zA2 zBR zBX zBa zBq zBI
end Go.Proofs.YtblomnkamngnbaaGreatDoor
