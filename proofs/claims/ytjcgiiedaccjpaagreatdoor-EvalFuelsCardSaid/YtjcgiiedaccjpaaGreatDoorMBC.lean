/- Parts. -/
import Derived.Test.YtjcgiiedaccjpaaGreatDoorMBA
import Derived.Test.YtjcgiiedaccjpaaGreatDoorMBB
set_option maxHeartbeats 16000000
namespace Go.Proofs.YtjcgiiedaccjpaaGreatDoor
open _root_.Go.Proofs.Tryz
open Go.Sx
theorem zJD: zAK prog 124=true:=by kernel_rfl
attribute [local irreducible] zAK Program.underlying Ylds zA3 alex zBc zBL awp zAc zBd zBi zBD zBI zBS zA5 zBT zBY zBe zBs zBN VCall
def chkT(t:Tr)(pat:Bool): Int :=
 if 4000<t.sz\/100<zIG t.fl then 60 else if t.werr pat≠0 then t.werr pat else if t.tw then 63 else 0
structure Ats(L:List Nd)(n:Nat)(ts:List Tr): Prop where
 drop:L.drop n=flL ts
 wf:wfL ts
theorem Ats.head{L:List Nd}{n:Nat}{t:Tr}{r:List Tr}(h:Ats L n (t::r)): At L n t:=by
 have hw:=h.wf
 rw[wfL]at hw
 exact⟨⟨flL r,by rw[h.drop,flL]⟩,hw.1⟩
theorem Ats.over{L:List Nd}{n:Nat}{t:Tr}{r:List Tr}(h:Ats L n (t::r)): Ats L (n+t.sz) r:=by
 have hw:=h.wf
 rw[wfL]at hw
 exact⟨by rw[<-List.drop_drop,h.drop,flL,<-Tr.fl_len,List.drop_left],hw.2⟩
theorem zIb: ∀(a b:List Tr),flL (a++b)=flL a++flL b
 |[],b=>by rw[qA9,flL,qA9]
 |t::a,b=>by rw[qBB,flL,flL,zIb a b,qAY]
theorem zNC{a b:List Tr}: wfL (a++b)↔wfL a/\wfL b:=by
 rw[zGR,zGR,zGR];simp only[qAx]
 exact⟨fun h=>⟨fun k hk=>h k (.inl hk),fun k hk=>h k (.inr hk)⟩,fun ⟨h1,h2⟩ k hk=>hk.elim (h1 k) (h2 k)⟩
theorem Ats.into{L:List Nd}{n:Nat}{x:Nd}{ks r:List Tr}(h:Ats L n (.mk x ks::r)): Ats L (n+1) (ks++r):=by
 have hw:=h.wf
 rw[wfL,Tr.wf]at hw
 refine⟨?_,zNC.2 ⟨hw.1.2,hw.2⟩⟩
 rw[<-List.drop_drop,h.drop,flL,Tr.fl,zIb];rfl
theorem zIL: ∀(a b:List Tr),twL (a++b)=(twL a||twL b)
 |[],b=>by rw[qA9,twL,qBW]
 |t::a,b=>by rw[qBB,twL,twL,zIL a b,Bool.or_assoc]
theorem zQr{t:Tr}(h:t.wf): zDJ t.fl=true:=zIK.2 ⟨t,rfl,h⟩
theorem Ats.none{L:List Nd}{n:Nat}(h:Ats L n []): L.length<=n:=by
 have:=congrArg List.length h.drop
 rw[qAl,flL,qAa]at this;omega
theorem Ats.lt{L:List Nd}{n:Nat}{t:Tr}{r:List Tr}(h:Ats L n (t::r)): n<L.length:=by
 have:=h.head.len;have:=zFs t;omega
theorem zOe(t:Tr)(hw:t.wf)(pat:Bool)(hL:t.fl.length<=1000000): zAc prog 60 [zAm t.fl,bl pat] (i64 (chkT t pat)):=by
 have hsz:=Tr.fl_len t
 have hW:=zHF t.fl (by omega)
 rw[zQr hw]at hW
 have hD:=zUM t.fl (by omega)
 have hK:=zOH t.fl (by omega) t.sz 0 t pat (qAM _) (.top hw)
 refine zAX func60 rfl ntmps60 results60 rfl ?_
 intro wb St0
 by_cases h1:4000<t.sz\/100<zIG t.fl
 ·rw[chkT,if_pos h1]
  by_cases h3:4000<t.sz
  ·skip
   repeat' first|apply en_n|apply zAE|apply zAA|apply zAD|apply w0|refine k0u (hd:=rfl) rfl rfl ?_|exact zDg rfl rfl|refine aBox (hd:=rfl) (hro:=rfl) rfl rfl ?_|apply ay (hd:=rfl)|exact zAC rfl|exact zAB rfl|exact zAo rfl zA8|exact zAi rfl rfl|exact zAJ rfl zAY rfl rfl|refine zAN rfl ?_|apply zAM|apply en_r|apply zAL|refine res1 rfl ?_
   all_goals rfl
  ·have h4:100<zIG t.fl:=by omega
   skip
   repeat' first|apply en_n|apply zAE|apply zAA|apply zAD|apply w0|exact zDg rfl rfl|exact zC4 rfl rfl|(refine zAU zFI hW (CoLA rfl))|(refine zAU zJD hD (CoLA rfl))|refine aBox (hd:=rfl) (hro:=rfl) rfl rfl ?_|apply ay (hd:=rfl)|exact zAC rfl|exact zAB rfl|exact zAo rfl zA8|exact zBX rfl|exact zAj rfl rfl|exact zAJ rfl zAY rfl rfl|refine w1 rfl rfl ?_|refine zAN rfl ?_|apply zAM|apply en_r|apply zAL|refine res1 rfl ?_
   all_goals rfl
 ·have h3:¬4000<t.sz:=fun c=>h1 (.inl c)
  have h4:¬100<zIG t.fl:=fun c=>h1 (.inr c)
  by_cases h2:t.werr pat=0
  ·rw[zNE,if_pos h2]at hK
   rw[chkT,if_neg h1,if_neg (by rw[h2];decide)]
   skip
   repeat' first|apply en_n|apply zAE|apply zAA|apply zAD|apply w0|exact zC4 rfl rfl|exact zBg rfl rfl|(refine zAU zFI hW (CoLA rfl))|(refine zAU zJD hD (CoLA rfl))|(refine zCr [0] [] rfl rfl zG9 (hK) rfl (SArgs_all rfl) rfl (by decide) rfl rfl rfl rfl)|refine aBox (hd:=rfl) (hro:=rfl) rfl rfl ?_|apply ay (hd:=rfl)|exact zAC rfl|exact zAB rfl|exact zAo rfl zA8|exact zBX rfl|exact zAj rfl rfl|exact zAe rfl rfl|exact zFD rfl|exact zAJ rfl zAY rfl rfl|exact zQa rfl|refine w1 rfl rfl ?_|refine zAQ rfl ?_|apply zAI|apply zAO
   refine zAv (α:=Nat×List Tr) (fun p=>Ats t.fl p.1 p.2/\twL p.2=t.tw) (fun p=>[(2,.ptr 0 0),(7,.clo 128 [0]),(8,.d (i64 (p.1:Int)))]) (fun _=>lO t.fl) (fun p=>t.fl.length-p.1) (0,[t])
    ⟨⟨by rw[qBM,flL,flL,qBG],by rw[wfL];exact⟨hw,trivial⟩⟩,by rw[twL,twL,Bool.or_false]⟩ (zAV (Le_all rfl) (zAT rfl rfl zAW) rfl rfl) ?_
   rintro⟨n,ts⟩ ⟨hA,hT⟩
   dsimp only at hA hT ⊢
   match ts,hA,hT with
   |[],hA,hT =>
    have hn:=hA.none
    have hli:¬(n:Int)<(t.fl.length:Int):=by omega
    rw[twL]at hT
    rw[<-hT]
    skip
    repeat' first|apply en_n|apply zAE|apply zAA|apply zAD|apply w0|exact zCT rfl rfl|apply ay (hd:=rfl)|exact zAC rfl|exact zAB rfl|exact zAo rfl zA8|exact zAJ rfl zAY rfl rfl|refine zAQ rfl ?_|apply zAM|apply zA0|apply en_e|apply eb_e|apply zAL|refine res1 rfl ?_
    all_goals rfl
   | .mk x ks::r,hA,hT =>
    have hn:=hA.lt
    have hli:(n:Int)<(t.fl.length:Int):=by omega
    have hx:=hA.head.here
    have hp:=zFG x.kind
    have hE:=zIu t.fl (n:Int) (by omega)
    rw[hA.head.endF]at hE
    have hC:=zNI t.fl n _ hA.head (by omega)
    have hov:=hA.over
    have hin:=hA.into
    rw[twL,Tr.tw]at hT
    have hszp:=zFs (.mk x ks)
    have hle:=hA.head.len
    rw[Tr.fl]at hC
    generalize Tr.sz (.mk x ks)=s at *
    cases hk:patK x.kind with
    |false =>
     rw[hk]at hp
     rw[if_neg (by rw[hk];decide)]at hT
     skip
     repeat' first|apply en_n|apply zAE|apply zAA|apply zAD|apply w0|exact zBh rfl rfl|(refine zAU zDQ hp (CoLA rfl))|(apply aJ (hd:=rfl);(first|exact zAq rfl|exact Co_bb rfl rfl rfl|exact Co_nn rfl);exact rfl;(with_reducible exact zAa);assumption;omega;exact fun _=>rfl)|apply ay (hd:=rfl)|exact zAC rfl|exact zAB rfl|exact zA1 rfl fn_0|exact zAR rfl zAp|exact zAo rfl zA8|refine zBE rfl rfl ?_|exact zBX rfl|exact zAJ rfl zAY rfl rfl|refine zAN rfl ?_|apply zAI|apply zAO|apply zA0|apply en_e|apply eb_e
     all_goals try omega
     exact⟨(n+1,ks++r),⟨hin,by rw[zIL];exact hT⟩,by simp only;omega,zAV (Le_all rfl) (zAT rfl rfl zAW) rfl rfl⟩
    |true =>
     rw[hk]at hp
     rw[if_pos hk]at hT
     cases hd:!decide (zBn (x::flL ks)).Nodup with
     |true =>
      rw[hd]at hC hT
      rw[<-hT]
      skip
      repeat' first|apply en_n|apply zAE|apply zAA|apply zAD|apply w0|exact zBh rfl rfl|(refine zAU zDQ hp (CoLA rfl))|exact zB7 rfl|(refine zCr [0] [0] rfl rfl zIW (hC) rfl (SArgs_all rfl) rfl (by decide) rfl rfl rfl rfl)|(apply aJ (hd:=rfl);(first|exact zAq rfl|exact Co_bb rfl rfl rfl|exact Co_nn rfl);exact rfl;(with_reducible exact zAa);assumption;omega;exact fun _=>rfl)|apply ay (hd:=rfl)|exact zAC rfl|exact zAB rfl|exact zA1 rfl fn_0|exact zAR rfl zAp|exact zAo rfl zA8|exact zBX rfl|exact zAJ rfl zAY rfl rfl|refine zAN rfl ?_|refine zAQ rfl ?_|apply zAI|apply zAO|apply zAM|apply en_r|apply eb_r|apply zAL|refine res1 rfl ?_
      all_goals try omega
      all_goals rfl
     |false =>
      rw[hd]at hC hT
      skip
      repeat' first|apply en_n|apply zAE|apply zAA|apply zAD|apply w0|exact zBh rfl rfl|(refine zAU zDQ hp (CoLA rfl))|exact zB7 rfl|(refine zCr [0] [0] rfl rfl zIW (hC) rfl (SArgs_all rfl) rfl (by decide) rfl rfl rfl rfl)|(refine zAU zIY hE (CoLA rfl))|(apply aJ (hd:=rfl);(first|exact zAq rfl|exact Co_bb rfl rfl rfl|exact Co_nn rfl);exact rfl;(with_reducible exact zAa);assumption;omega;exact fun _=>rfl)|apply ay (hd:=rfl)|exact zAC rfl|exact zAB rfl|exact zA1 rfl fn_0|exact zAR rfl zAp|exact zAo rfl zA8|refine zBE rfl rfl ?_|refine zIJ rfl rfl ?_|exact zBX rfl|exact zAJ rfl zAY rfl rfl|refine zAN rfl ?_|refine zAQ rfl ?_|apply zAI|apply zAO|apply eb_n
      all_goals try omega
      exact⟨(n+s,r),⟨hov,by simpa using hT⟩,by simp only;omega,zAV (Le_cons rfl (Le_cons rfl (Le_d rfl (by congr 2;omega) Le_nil))) (zAT rfl rfl zAW) rfl rfl⟩
  ·rw[zNE,if_neg h2]at hK
   rw[chkT,if_neg h1,if_pos h2]
   skip
   exact yN
theorem zOf(L:List Nd)(pat:Bool)(hL:L.length<=1000000)(hw:zDJ L=false): zAc prog 60 [zAm L,bl pat] (i64 60):=by
 have hW:=zHF L (by omega)
 rw[hw]at hW
 refine zAX func60 rfl ntmps60 results60 rfl ?_
 intro wb St0
 exact yQ
theorem zJy(t:Tr)(hw:t.wf)(hL:t.fl.length<=1000000): zAc prog 29 [zAm t.fl] (i64 (chkT t false)):=by
 have hc:=zOe t hw false hL
 refine zAX func29 rfl ntmps29 results29 rfl ?_
 intro wb St0
 repeat' first|apply en_n|apply zAE|apply zAA|apply zAD|apply w0|(refine zAU zKG hc (CoLA rfl))|apply ay (hd:=rfl)|exact zAC rfl|exact zAB rfl|apply zAM|apply zAL|refine res1 rfl ?_
 rfl
theorem zOh(L:List Nd)(hL:L.length<=1000000)(hw:zDJ L=false): zAc prog 29 [zAm L] (i64 60):=by
 have hc:=zOf L false hL hw
 refine zAX func29 rfl ntmps29 results29 rfl ?_
 intro wb St0
 repeat' first|apply en_n|apply zAE|apply zAA|apply zAD|apply w0|(refine zAU zKG hc (CoLA rfl))|apply ay (hd:=rfl)|exact zAC rfl|exact zAB rfl|apply zAM|apply zAL|refine res1 rfl ?_
 rfl
