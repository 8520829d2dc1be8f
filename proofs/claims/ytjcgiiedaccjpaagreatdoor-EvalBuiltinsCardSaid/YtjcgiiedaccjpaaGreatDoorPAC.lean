/- Parts. -/
import Derived.Test.YtjcgiiedaccjpaaGreatDoorPAB
set_option maxHeartbeats 16000000
namespace Go.Sx
open Go.RowKit
theorem zRk(a b:Nat): (a==b)=Nat.beq b a:=by
 rw[Bool.eq_iff_iff]
 simp only[beq_iff_eq,Nat.beq_eq]
 exact eq_comm
def kz(dead:List Nat)(b:Bool)(σ:Sl): Sl:=match b with
 |true=>dead.map (fun k=>(k,SV.top))++σ
 |false=>σ
theorem zOO{dead:List Nat}{b:Bool}{σ:Sl}{t:Nat}(h:t∉dead): get (kz dead b σ) t=get σ t:=by
 cases b with
 |false=>rfl
 |true =>
  unfold kz
  induction dead with
  |nil=>rfl
  |cons d r ih =>
   rw[qA1,qBL,zBl,if_neg (fun e=>h (by rw[e];exact qAt))]
   exact ih fun hm=>h (qAk _ hm)
theorem zZw{dead:List Nat}{σ:Sl}{t:Nat}(h:t∈dead): get (kz dead true σ) t=.top:=by
 unfold kz
 induction dead with
 |nil=>cases h
 |cons d r ih =>
  rw[qA1,qBL,zBl]
  split
  ·rfl
  ·rename_i hne
   rcases qAq.1 h with e|e
   ·exact absurd e.symm hne
   ·exact ih e
theorem zbR{dead:List Nat}{b:Bool}{σ:Sl}{d:Option Nat}{s:SV}{t:Nat}(h:t∉dead): get (put (kz dead b σ) d s) t=get (put σ d s) t:=by
 cases d with
 |none=>exact zOO h
 |some d =>
  rw[put,put,zBl,zBl]
  split
  ·rfl
  ·exact zOO h
def zYx(l:List Oper)(dead:List Nat)(e0:Nat): Bool:=(l.zipIdx 0).all fun p=>Nat.beq p.2 e0||zEy l.toArray l.length e0 p.2||((p.1.looksAt l.toArray).all (fun t=>!dead.any (Nat.beq t))&&match p.1.dst with
 |some t=>!dead.any (Nat.beq t)
 |none=>true)
theorem zRe{dead:List Nat}{t:Nat}(h:(!dead.any (Nat.beq t))=true): t∉dead:=fun hm=>by
 have:dead.any (Nat.beq t)=true:=qBK.2 ⟨t,hm,by simp⟩
 rw[this]at h;cases h
theorem zVl{l:List Oper}{dead:List Nat}{e0 j:Nat}{o:Oper}(h:zYx l dead e0=true)(ho:l[j]?=some o)(hj:j≠e0)(hr:zEy l.toArray l.length e0 j=false): (∀t,t∈o.looksAt l.toArray->t∉dead)/\∀t,o.dst=some t->t∉dead:=by
 have hm:(o,j)∈l.zipIdx 0:=qBA.2 ⟨j,by rw[List.getElem?_zipIdx,ho,qAS];rfl⟩
 have:=qAI.1 h _ hm
 have hb:Nat.beq j e0=false:=by
  cases hq:Nat.beq j e0 with
  |false=>rfl
  |true=>exact absurd (qAX hq) hj
 simp only[hb,hr,qBJ,qAR]at this
 refine⟨fun t ht=>zRe ?_,fun t ht=>zRe ?_⟩
 ·have h1:=this.1
  exact qAI.1 h1 t ht
 ·have h2:=this.2
  rw[ht]at h2;exact h2
def zKU(C:Ctx)(l:List Oper)(es:List Nat)(ηs:List (List Ob))(e0:Nat)(dead:List Nat)(nob:SV->Bool)(j:Nat)(o:Oper)(s:SV)(σ:Sl): Prop:=match idxC es j with
 |some i=>∀τ,(∀t,t∈o.looksAt l.toArray->get τ t=get σ t)->(Nat.beq j e0=true->∀t,t∉dead->nob (get τ t)=true)->EStep C o (fun σ' η'=>Le (kz dead (Nat.beq j e0) (put τ o.dst s)) σ'/\η'=ηs.getD (i+1) []) τ (ηs.getD i [])
 |none=>YAll C σ o s ((ηs.take (upC l es j+1)).drop (lowC l es j))
def segK(C:Ctx)(l:List Oper)(es:List Nat)(ηs:List (List Ob))(e0:Nat)(dead:List Nat)(nob:SV->Bool): Nat->List Oper->List SV->Sl->Prop
 |j,o::r,s::ss,σ=>(o.guard=none/\zFA C.N o.dst/\zKU C l es ηs e0 dead nob j o s σ)/\segK C l es ηs e0 dead nob (j+1) r ss (put σ o.dst s)
 |_,_,_,_=>True
theorem zTp{C:Ctx}{l:List Oper}{es:List Nat}{ηs:List (List Ob)}{e0:Nat}{dead:List Nat}{nob:SV->Bool}: ∀(r:List Oper) (ss:List SV) (j:Nat) (σ:Sl),segK C l es ηs e0 dead nob j r ss σ->∀(i:Nat) o s,r[i]?=some o->ss[i]?=some s->
  o.guard=none/\zFA C.N o.dst/\match idxC es (j+i)with
   |some k=>∀τ,(∀t,t∈o.looksAt l.toArray->get τ t=get (pst σ j r ss (fun m=>decide (m<j+i))) t)->(Nat.beq (j+i) e0=true->∀t,t∉dead->nob (get τ t)=true)->EStep C o (fun σ' η'=>Le (kz dead (Nat.beq (j+i) e0) (put τ o.dst s)) σ'/\η'=ηs.getD (k+1) []) τ (ηs.getD k [])
   |none=>∀(q:Nat) (η:List Ob),lowC l es (j+i)<=q->q<=upC l es (j+i)->ηs[q]?=some η->∀τ,(∀x∈o.op.operands,oval τ x=oval (pst σ j r ss (fun m=>decide (m<j+i))) x)->Ylds C.P η τ o s
 |_,[],_,_,_,i,o,s,_,hs=>by simp at hs
 |[],_::_,_,_,_,i,o,s,ho,_=>by simp at ho
 |o::r,s::ss,j,σ,h,0,o',s',ho,hs=>by
  simp at ho hs;subst ho;subst hs
  have e0':∀t,get (pst σ j (o::r) (s::ss) (fun m=>decide (m<j+0))) t=get σ t:=by
   intro t
   have:=zCz t (o::r) (s::ss) σ σ j (fun m=>decide (m<j+0)) (fun _=>false) rfl (fun i o' hi hne=>by simp at hne)
   rw[this,zFB]
  obtain⟨⟨h1,h2,h4⟩,_⟩:=h
  refine⟨h1,h2,?_⟩
  unfold zKU at h4
  rw[qBI]at *
  split
  ·rename_i k hk
   rw[hk]at h4
   exact fun τ hτ=>h4 τ fun t ht=>by rw[hτ t ht,e0']
  ·rename_i hk
   rw[hk]at h4
   intro q η hq hq2 hη τ hτ
   refine(h4.get (q-lowC l es j) η ?_).congr fun x hx=>(hτ x hx).trans (zEZ (fun t=>by rw[e0']) x)
   rw[qBC,Nat.add_sub_cancel' hq,qAd,if_pos oM];exact hη
 |o::r,s::ss,j,σ,h,i+1,o',s',ho,hs=>by
  have:=zTp r ss (j+1) _ h.2 i o' s' (by simpa using ho) (by simpa using hs)
  have hj:j+(i+1)=j+1+i:=by omega
  have hd:decide (j<j+1+i)=true:=by simp;omega
  simp only[pst,hj,hd]
  exact this
theorem zIy{C:Ctx}{Q:Exit->Sl->List Ob->Prop}{σ:Sl}{η:List Ob}{id:Nat}{l:List Oper}(ss:List SV)(es:List Nat)(ηs:List (List Ob))(e0:Nat)(dead:List Nat)(nob:SV->Bool)
  (hE0:es.any (Nat.beq e0)=true) (hdl:zYx l dead e0=true) (hnob:∀(f:Nat->Bool),f e0=false->∀t,t∉dead->nob (get (pst σ 0 l ss f) t)=true)
  (hm:C.P.follows .mixedOrders=true) (hB:zF1 l=true) (hsl:Nat.ble ss.length l.length=true) (hbar:ss.length=l.length\/zIx l.toArray (l.length-ss.length-1)=true) (hes:(es.all fun e=>Nat.blt e ss.length)=true) (hch:zJh l es=true)
  (hη:Nat.beq ηs.length (es.length+1)=true) (h0:ηs.getD 0 []=η)
  (hs:segK C l es ηs e0 dead nob 0 l ss σ) (h:alex C true l.toArray (l.drop ss.length) (Q .normal) (kz dead true (segσ l (ss.map .y) σ)) (ηs.getD es.length [])):awp C (.region id l.toArray true) Q σ η:=by
 intro R hR a w ⟨g,hg⟩
 have hsl:=qAM hsl
 have hη:=qAX hη
 have hd0:Abs C σ η a { w with drawn:=w.drawn+1 }:=⟨g,hg.grow ⟨rfl,rfl,rfl,rfl,rfl,rfl,rfl,qAN _,fun _ _=>rfl,fun _ _ h=>h,fun _ _ h=>.inl h,hg.inv.st⟩⟩
 have hsv:(ss.map SegK.y).map SegK.sv=ss:=by rw[qBo];exact List.map_id ss
 have hat:=zTp l ss 0 σ hs
 have hnd:es.Nodup:=by
  rw[List.nodup_iff_pairwise_ne,List.pairwise_iff_getElem]
  intro i j hi hj hij
  have:=(zF3 hch i j _ _ hij (qAB hi) (qAB hj)).1
  omega
 let I:(Nat->Bool)->Act->World->Prop:=fun f a w=>Abs C (kz dead (f e0) (pst σ 0 l ss f)) (ηs.getD (cntC es f) []) a w
 have he0:e0∈es:=by obtain⟨x,hx,hq⟩:=qBK.1 hE0;rw[qAX hq];exact hx
 have he0l:e0<ss.length:=by have:=qAI.1 hes e0 he0;simpa using this
 refine wp_region_any hm (zQR (C:=C) (K:=Q .normal) (fun σ' η' a w hk hab=>hR _ _ _ _ _ hk hab) hB ss.length hsl hbar I ?_ ?_ _ _ a _ sI ?_ ?_ (fun i _ hi=>?_) ?_)
 ·intro f a w hf hI
  refine⟨_,_,h,?_⟩
  have hc:cntC es f=es.length:=by
   unfold cntC
   rw[List.filter_eq_self.2 fun e he=>hf e (by have:=qAI.1 hes e he;simpa using this)]
  simp only[I,hc,hf e0 he0l]at hI
  have:=zIR l (ss.map .y) 0 σ f (fun i hi=>by rw[qAS];exact hf i pAH)
  rw[hsv]at this
  rw[this]at hI;exact hI
 ·intro f j o a w hjm hlj hun hcl hdep hI
  obtain⟨s,hsj⟩:∃s,ss[j]?=some s:=⟨_,qAB hjm⟩
  have same:=zJy (σ:=σ) (ss:=ss) hB hlj hun hcl hdep
  have next:=zJz (σ:=σ) hB hlj hsj hun hcl
  obtain⟨hgd,hdst,hop⟩:=hat j o s hlj hsj
  rw[qAS]at hop
  have hcl':∀j o,l.toArray[j]?=some o->f j=true->∀e∈o.after,Region.binds .any e=true->f e.on=true:=fun j o ho=>hcl j o (by simpa using ho)
  have hreach:∀e,zEy l.toArray l.length j e=true->f e=true:=fun e hr=>zCf hcl' l.length j o (by simpa using hlj) hdep hr
  simp only[I]at hI
  have hdj:f e0=true->(∀t,t∈o.looksAt l.toArray->t∉dead)/\∀t,o.dst=some t->t∉dead:=fun hfe=>by
   have hox:l[e0]?=some (l[e0]' oM):=qAB oM
   refine zVl hdl hlj (fun h=>by subst h;rw[hun]at hfe;cases hfe) ?_
   cases hr:zEy l.toArray l.length e0 j with
   |false=>rfl
   |true =>
    exfalso
    have:=zCf hcl' l.length e0 _ (by simp[hox]) (fun ed he hbn=>hcl e0 _ hox hfe ed he hbn) hr
    rw[hun]at this;cases this
  have same2:∀t,t∈o.looksAt l.toArray->get (kz dead (f e0) (pst σ 0 l ss f)) t=get (pst σ 0 l ss f) t:=fun t ht=>by
   cases hfe:f e0 with
   |false=>rfl
   |true=>exact zOO ((hdj hfe).1 t ht)
  have nob2:Nat.beq j e0=true->∀t,t∉dead->nob (get (kz dead (f e0) (pst σ 0 l ss f)) t)=true:=fun hj t ht=>by
   rw[zOO ht];exact hnob f (by rw[<-qAX hj];exact hun) t ht
  have next2:∀t,get (kz dead (f e0||Nat.beq j e0) (pst σ 0 l ss fun i=>i==j||f i)) t=get (kz dead (Nat.beq j e0) (put (kz dead (f e0) (pst σ 0 l ss f)) o.dst s)) t\/get (kz dead (f e0||Nat.beq j e0) (pst σ 0 l ss fun i=>i==j||f i)) t=.top:=fun t=>by
   by_cases ht:t∈dead
   ·cases hb:(f e0||Nat.beq j e0)with
    |true=>exact .inr (zZw ht)
    |false =>
     rw[Bool.or_eq_false_iff]at hb
     rw[hb.1,hb.2]
     exact .inl (next t).symm
   ·refine .inl ?_
    rw[zOO ht,zOO ht,<-next t]
    exact(zbR ht).symm
  split at hop
  ·
   rename_i i hi
   have hei:=zKt es j _ hi
   have hE:=hop
   have hcnt:cntC es f=i:=zP9 (fun b x hb=>by
    rcases qBS b i with hlt|heq|hgt
    ·rw[hreach x (zF3 hch b i x j hlt hb hei).2];exact(decide_eq_true hlt).symm
    ·subst heq;rw[hb]at hei;injection hei with hei;subst hei;rw[hun];simp
    ·have hr:=(zF3 hch i b j x hgt hei hb).2
     cases hfx:f x with
     |false=>exact(decide_eq_false oM).symm
     |true =>
      exfalso
      have hxl:∃ox,l[x]?=some ox:=by
       have hxs:x<ss.length:=by have:=qAI.1 hes x (qAC hb);simpa using this
       exact⟨_,qAB oM⟩
      obtain⟨ox,hox⟩:=hxl
      have:=zCf hcl' l.length x ox (by simpa using hox) (fun e he hbn=>hcl x ox hox hfx e he hbn) hr
      rw[hun]at this;cases this) (by have:=(qAA.1 hei).1;omega)
   rw[hcnt]at hI
   refine .inl ⟨by unfold Region.wanted;rw[hgd],?_⟩
   refine Oper.wp_mono ?_ (hE _ (fun t ht=>(same2 t ht).trans (same t ht)) nob2 _ a w hI)
   rintro a' w' ⟨σ',η'',⟨hle,rfl⟩,hab⟩
   simp only[I,zRf hnd hei hun,hcnt]
   have hab2:=hab.le hle
   refine hab2.le fun t=>?_
   have hbe:((e0==j)||f e0)=(f e0||Nat.beq j e0):=by rw[Bool.or_comm,zRk]
   rw[hbe]
   exact next2 t
  ·
   rename_i hi
   have hnm:=zKu hi
   have hlow:lowC l es j<=cntC es f:=by unfold lowC;exact zNM (f:=fun e=>zEy l.toArray l.length j e) fun k _ hk=>hreach k hk
   have hup:cntC es f<=upC l es j:=by
    unfold upC
    refine zNM (f:=f) (g:=fun e=>!zEy l.toArray l.length e j) fun e he hfe=>?_
    cases hr:zEy l.toArray l.length e j with
    |false=>rfl
    |true =>
     exfalso
     have hel:e<ss.length:=by have:=qAI.1 hes e he;simpa using this
     have hox:l[e]?=some (l[e]' oM):=qAB oM
     have:=zCf hcl' l.length e _ (by simp[hox]) (fun ed he hbn=>hcl e _ hox hfe ed he hbn) hr
     rw[hun]at this;cases this
   have hlen:cntC es f<ηs.length:=by
    have:cntC es f<=es.length:=qBO _ _
    omega
   have hη2:ηs[cntC es f]?=some (ηs.getD (cntC es f) []):=by
    rw[qAL,qAB hlen];rfl
   have hy:Ylds C.P (ηs.getD (cntC es f) []) (kz dead (f e0) (pst σ 0 l ss f)) o s:=hop _ _ hlow hup hη2 _ fun x hx=>by
    cases x with
    |tmp t=>show get _ t=get _ t;rw[same2 t (zB2 hx),same t (zB2 hx)]
    |_=>rfl
   obtain⟨g,h1⟩:=hI
   refine .inl ⟨by unfold Region.wanted;rw[hgd],?_⟩
   refine hy.wp hdst (fun a' w' hab=>?_) h1
   simp only[I,zRg hnm]
   have hje:Nat.beq j e0=false:=by
    cases hq:Nat.beq j e0 with
    |false=>rfl
    |true=>exact absurd he0 (by rw[<-qAX hq];exact hnm)
   refine hab.le fun t=>?_
   have hbe:((e0==j)||f e0)=(f e0||Nat.beq j e0):=by rw[Bool.or_comm,zRk]
   rw[hbe]
   have:=next2 t
   rw[hje]at this ⊢
   exact this
 ·refine qAx (qBO _ _) sI
 ·intro j o hj hl
  have hjl:j<l.length:=(qAA.1 hj).1
  rw[qAQ,qAP (by simpa using hjl)]at hl
  simp at hl
 ·rw[qAQ,qAP pAH]
  simp
 ·have hf0:∀i,i<l.length->(Array.replicate l.toArray.size false).getD i true=false:=fun i hi=>by
   rw[qAQ,qAP pAH];simp
  have hc0:cntC es (fun i=>(Array.replicate l.toArray.size false).getD i true)=0:=by
   unfold cntC
   rw[List.filter_eq_nil_iff.2 fun e he=>by rw[hf0 e (by have:=qAI.1 hes e he;simp at this;omega)];simp];rfl
  have hfe:(Array.replicate l.toArray.size false).getD e0 true=false:=hf0 e0 oM
  simp only[I,hc0,hfe]
  obtain⟨g,hd0⟩:=hd0
  rw[h0]
  refine⟨g,{ hd0 with rep:=fun t=>?_ }⟩
  change RepS _ _ _ (get (pst σ 0 l ss fun i=>(Array.replicate l.toArray.size false).getD i true) t)
  rw[zCz t l ss σ σ 0 _ (fun _=>false) rfl (fun i o hi hne=>?_),zFB]
  ·exact hd0.rep t
  ·rw[qAS,hf0 i (qAA.1 hi).1]at hne
   exact absurd rfl hne
def nobB(id:Nat): SV->Bool
 | .d _=>true
 | .nil=>true
 | .ptr i _=>!Nat.beq i id
 | .buf i _=>!Nat.beq i id
 | .top=>true
 | .rptr _=>true
 |_=>false
theorem zOE{id:Nat}: ∀{s:SV},nobB id s=true->s.kill id=s
 | .d _,_=>rfl
 | .nil,_=>rfl
 | .ptr i o,h=>by
  have:Nat.beq i id=false:=by simpa[nobB]using h
  simp only[SV.kill,this]
 | .buf i n,h=>by
  have:Nat.beq i id=false:=by simpa[nobB]using h
  simp only[SV.kill,this]
 | .top,_=>rfl
 | .rptr _,_=>rfl
 | .bptr _ _ _,h=>by cases h
 | .bsl _ _ _,h=>by cases h
 | .clo _ _,h=>by cases h
 | .mp _,h=>by cases h
 | .pair _ _,h=>by cases h
 | .p _,h=>by cases h
def nobP(id:Nat)(dead:List Nat)(e0:Nat): Nat->List Oper->List SV->Bool
 |k,o::l,s::ss=>(Nat.beq k e0||(match o.dst with
  |some d=>dead.any (Nat.beq d)||nobB id s
  |none=>true))&&nobP id dead e0 (k+1) l ss
 |_,_,_=>true
def nobσ(id:Nat)(dead:List Nat): Sl->Bool
 |[]=>true
 |(k,s)::r=>(dead.any (Nat.beq k)||nobB id s)&&nobσ id dead r
theorem zQy{id:Nat}{dead:List Nat}: ∀{σ:Sl},nobσ id dead σ=true->∀t,t∉dead->nobB id (get σ t)=true
 |[],_,_,_=>rfl
 |(k,s)::r,h,t,ht=>by
  simp only[nobσ,qAR]at h
  rw[zBl]
  split
  ·rename_i e;subst e
   rcases Bool.or_eq_true_iff.1 h.1 with h1|h1
   ·obtain⟨x,hx,hq⟩:=qBK.1 h1
    exact absurd (by rw[qAX hq];exact hx) ht
   ·exact h1
  ·exact zQy h.2 t ht
theorem zUC{id:Nat}{dead:List Nat}{e0:Nat}{f:Nat->Bool}(hf:f e0=false): ∀{l:List Oper} {ss:List SV} {k:Nat} {σ:Sl},nobP id dead e0 k l ss=true->(∀t,t∉dead->nobB id (get σ t)=true)->∀t,t∉dead->nobB id (get (pst σ k l ss f) t)=true
 |[],_,_,_,_,hσ,t,ht=>by unfold pst;exact hσ t ht
 |_::_,[],_,_,_,hσ,t,ht=>by unfold pst;exact hσ t ht
 |o::l,s::ss,k,σ,h,hσ,t,ht=>by
  simp only[nobP,qAR]at h
  unfold pst
  refine zUC hf h.2 (fun u hu=>?_) t ht
  split
  ·rename_i hk
   rcases Bool.or_eq_true_iff.1 h.1 with h1|h1
   ·rw[qAX h1,hf]at hk;cases hk
   ·cases hd:o.dst with
    |none=>exact hσ u hu
    |some d =>
     rw[hd]at h1
     rw[put,zBl]
     split
     ·rename_i e;subst e
      rcases Bool.or_eq_true_iff.1 h1 with h2|h2
      ·obtain⟨x,hx,hq⟩:=qBK.1 h2
       exact absurd (by rw[qAX hq];exact hx) hu
      ·exact h2
     ·exact hσ u hu
  ·exact hσ u hu
theorem zMj{id:Nat}{dead:List Nat}{e0:Nat}{l:List Oper}{ss:List SV}{σ:Sl}(h1:nobσ id dead σ=true)(h2:nobP id dead e0 0 l ss=true)(f:Nat->Bool)(hf:f e0=false)(t:Nat)(ht:t∉dead): nobB id (get (pst σ 0 l ss f) t)=true :=
 zUC hf h2 (zQy h1) t ht
section
variable {C:Ctx}{l r:List Oper}{es:List Nat}{ηs:List (List Ob)}{j:Nat}{s:SV}{ss:List SV}{σ:Sl}{e0:Nat}{dead:List Nat}{nob:SV->Bool}
theorem zJx: segK C l es ηs e0 dead nob j r [] σ:=by cases r <;> trivial
theorem zTn{o:Oper}(hi:idxC es j=none)(hg:o.guard=none)(hd:zFA C.N o.dst)(h:YAll C σ o s ((ηs.take (upC l es j+1)).drop (lowC l es j)))(hr:segK C l es ηs e0 dead nob (j+1) r ss (put σ o.dst s)): segK C l es ηs e0 dead nob j (o::r) (s::ss) σ:=by
 refine⟨⟨hg,hd,?_⟩,hr⟩
 unfold zKU;rw[hi];exact h
theorem zBx{o:Oper}(hi:idxC es j=none)(hg:o.guard=none)(hd:zFA C.N o.dst)(h:∀η,Ylds C.P η σ o s)(hr:segK C l es ηs e0 dead nob (j+1) r ss (put σ o.dst s)): segK C l es ηs e0 dead nob j (o::r) (s::ss) σ:=zTn hi hg hd (zQL h) hr
theorem zQo{o:Oper}{ηi:List Ob}(hi:idxC es j=none)(hg:o.guard=none)(hd:zFA C.N o.dst)(hlo:Nat.beq (lowC l es j) 0=true)(hup:Nat.beq (upC l es j) 0=true)(hη:ηs.take 1=[ηi])(h:Ylds C.P ηi σ o s)(hr:segK C l es ηs e0 dead nob (j+1) r ss (put σ o.dst s)): segK C l es ηs e0 dead nob j (o::r) (s::ss) σ :=
 zTn hi hg hd (by rw[qAX hlo,qAX hup];show YAll C σ o s ((ηs.take 1).drop 0);rw[hη];exact⟨h,trivial⟩) hr
theorem zLo{t x y ty pos after}{id o n:Nat}{kb:Option Nat}{et:Option TypeId}{b0:Bool}{cs vs:List SV}{s0:SV}{ηi:List Ob}(i:Nat)(hi:idxC es j=some i)(hje:Nat.beq j e0=false)(hx:oval σ x=.ptr id o)(hy:oval σ y=s0)(hv:zHA s0=some vs)(ht:zBh C.P t=some (b0,n))(hηi:ηs.getD i []=ηi)(ho:ηi[id]?=some (.bx kb et cs))(hn:Nat.beq vs.length n=true)(hl:Nat.ble (o+n) cs.length=true)(hro:Nat.ble C.ro id=true)
  (hη:ηs.getD (i+1) []=ηi.set id (.bx kb et (cs.take o++vs++cs.drop (o+n)))) (hr:segK C l es ηs e0 dead nob (j+1) r ss σ):segK C l es ηs e0 dead nob j (⟨none,.store t x y,ty,pos,after,none⟩::r) (s::ss) σ:=by
 refine⟨⟨rfl,trivial,?_⟩,hr⟩
 unfold zKU;rw[hi]
 intro τ hτ _
 have ex:∀z:Operand,z∈(Op.store t x y).operands->oval τ z=oval σ z:=fun z hz=>by
  cases z with
  |tmp u=>exact hτ u (zB2 hz)
  |_=>rfl
 rw[hηi,hη,hje]
 refine EStep.of (ops:=l.toArray) (zAq (by rw[ex x sO];exact hx) (by rw[ex y sO];exact hy) hv ht ho hn hl hro (zAD ⟨Le.refl _,rfl⟩))
theorem zMe{t x y ty pos after}{d id n m e sz by':Nat}{mu:Bool}{xs ys:List D}{ηi:List Ob}(i:Nat)(hi:idxC es j=some i)(hje:Nat.beq j e0=true)(hx:oval σ x=.buf id n)(hηi:ηs.getD i []=ηi)(ho:ηi[id]?=some (.buf mu e sz xs))(hy:oval σ y=.d (.slice ys))(hn:n=xs.length)(hm:m=ys.length)
  (he:zCB C.P t=some e) (hs:zBU C.P t=some sz) (hz:zDf C.P e=some sz) (hb:zDZ C.P t=some by') (hd:Nat.blt d C.N=true) (hro:Nat.ble C.ro id=true) (hf:∀d∈ys,d.flat.length=sz) (hlen:(n+m)*by'<=140737488355328/\n+m<=140737488355328)
  (hη:ηs.getD (i+1) []=(zFR id ηi).set id (.buf mu e sz (xs++ys))) (hr:segK C l es ηs e0 dead (nobB id) (j+1) r ss (put σ (some d) (.buf id (n+m)))):segK C l es ηs e0 dead (nobB id) j (⟨some d,.call ⟨.builtin .append, #[x,y], #[t,t]⟩,ty,pos,after,none⟩::r) (.buf id (n+m)::ss) σ:=by
 refine⟨⟨rfl,hd,?_⟩,hr⟩
 unfold zKU;rw[hi]
 intro τ hτ hno
 have ex:∀z:Operand,z∈(Op.call ⟨.builtin .append, #[x,y], #[t,t]⟩).operands->oval τ z=oval σ z:=fun z hz=>by
  cases z with
  |tmp u=>exact hτ u (zB2 hz)
  |_=>rfl
 have hno:=hno hje
 rw[hηi,hη,hje]
 refine EStep.of (ops:=l.toArray) (aApp (by rw[ex x pAG];exact hx) ho (by rw[ex y pAG,hy];exact zAr rfl) hn hm he hs hz hb hd hro hf hlen (zAD ⟨fun u=>?_,rfl⟩))
 by_cases hu:u∈dead
 ·exact .inr (zZw hu)
 ·refine .inl ?_
  rw[zOO hu,put,zBl,zBl]
  split
  ·rfl
  ·rw[zIn,zOE (hno u hu)]
end
theorem zKq(id:Nat): ∀(a b:List Ob),zFR id (a++b)=zFR id a++zFR id b
 |[],_=>rfl
 |o::a,b=>by rw[qBL,zFR,zFR,zKq id a b,qBL]
theorem zKp(id:Nat): ∀(H:List (Nat×D)),zFR id (hidL H)=hidL H
 |[]=>rfl
 |p::H=>by
  show Ob.kill id _::zFR id (hidL H)=_
  rw[zKp id H];rfl
theorem zBV{C:Ctx}{l:List Oper}{es:List Nat}{ηs:List (List Ob)}{j:Nat}{σ:Sl}: segS C l es ηs j [] [] σ:=trivial
theorem zB5{C:Ctx}{Q:Exit->Sl->List Ob->Prop}{σ:Sl}{η:List Ob}{id:Nat}{l:List Oper}(m i j:Nat)(a b:List SV){ss:List SV}(hm:C.P.follows .mixedOrders=true)(hB:zF1 l=true)(hch:zJh l [m,m+1]=true)(hml:Nat.beq l.length (m+2)=true)
  (hs:segS C l [m,m+1] [η,η.set i (.box a),(η.set i (.box a)).set j (.box b)] 0 l ss σ) (hl:Nat.beq ss.length l.length=true) (h:Q .normal (segσ l (ss.map .y) σ) ((η.set i (.box a)).set j (.box b))):awp C (.region id l.toArray true) Q σ η:=by
 have e:=qAX hl
 have e2:=qAX hml
 refine zFK ss [m,m+1] [η,η.set i (.box a),(η.set i (.box a)).set j (.box b)] hm hB (by rw[e];exact Nat.ble_eq_true_of_le (qAN _)) (.inl e) ?_ hch rfl rfl hs ?_
 ·rw[e,e2]
  simp[Nat.blt]
 ·rw[e,List.drop_length];exact zAD h
theorem zKA{C:Ctx}{Q:Exit->Sl->List Ob->Prop}{σ:Sl}{η:List Ob}{id:Nat}{l:List Oper}(es:List Nat)(ηs:List (List Ob)){ss:List SV}(hm:C.P.follows .mixedOrders=true)(hB:zF1 l=true)(hes:(es.all fun e=>Nat.blt e l.length)=true)(hch:zJh l es=true)(hη:Nat.beq ηs.length (es.length+1)=true)(h0:ηs.getD 0 []=η)
  (hs:segS C l es ηs 0 l ss σ) (hl:Nat.beq ss.length l.length=true) (h:Q .normal (segσ l (ss.map .y) σ) (ηs.getD es.length [])):awp C (.region id l.toArray true) Q σ η:=by
 have e:=qAX hl
 refine zFK ss es ηs hm hB (by rw[e];exact Nat.ble_eq_true_of_le (qAN _)) (.inl e) (by rw[e];exact hes) hch hη h0 hs ?_
 rw[e,List.drop_length];exact zAD h
section
variable {C:Ctx}{l r:List Oper}{es:List Nat}{ηs:List (List Ob)}{j:Nat}{ss:List SV}{σ:Sl}
theorem zHX{t ty pos after}{d id:Nat}{zs:List Value}{ηi:List Ob}(i:Nat)(hi:idxC es j=some i)(hηi:ηs.getD i []=ηi)(hz:zBv C.P t=some zs)(hd:Nat.blt d C.N=true)(hro:Nat.ble C.ro ηi.length=true)(hid:ηi.length=id)
  (hη:ηs.getD (i+1) []=ηi++[.box (zs.map cst)]) (hr:segS C l es ηs (j+1) r ss (put σ (some d) (.ptr id 0))):segS C l es ηs j (⟨some d,.alloc t,ty,pos,after,none⟩::r) (.ptr id 0::ss) σ:=by
 subst hid
 refine⟨⟨rfl,hd,?_⟩,hr⟩
 unfold zLn;rw[hi]
 intro τ hτ
 rw[hηi,hη]
 refine EStep.of (ops:=l.toArray) (zA4 hz hd hro (zAD ?_))
 exact⟨rfl,rfl⟩
end
theorem zC3{k:Option Nat}{et:Option TypeId}{cs:List SV}: WOb (.bx none none cs) (.bx k et cs):=fun g w id h=>by
 obtain⟨b,e,us,h1,h2,h3,h4,h5,h6,h7,h8⟩:=h
 exact⟨b,e,us,h1,h2,h3,h4,h5,h6,(fun c hc=>by cases hc),(fun t ht=>by cases ht)⟩
theorem zFr{C:Ctx}{Q:Exit->Sl->List Ob->Prop}{σ:Sl}{η:List Ob}{id:Nat}{o:Array Oper}{dr:Bool}{c:Code}(h:Stop (awp C ((Code.region id o dr).seq c) Q σ η)): awp C ((Code.region id o dr).seq c) Q σ η:=by
 unfold Stop at h;exact h
theorem zQj{C:Ctx}{Q:Exit->Sl->List Ob->Prop}{σ:Sl}{η:List Ob}{id:Nat}{o:Array Oper}{dr:Bool}(h:Stop (awp C (.region id o dr) Q σ η)): awp C (.region id o dr) Q σ η:=by
 unfold Stop at h;exact h
theorem FCall.pcall{P:Program}{f:FuncId}{ds:List D}{n e sz:Nat}{xs:List D}(h:FCall P f ds n e sz xs)(hn:n=xs.length): zAX P f ds (.slice xs):=by
 intro St w vs hst hgl hr
 refine(h St w vs hst hgl hr).mono fun r w' ⟨ob,cap,St',he,hbel,hkeep,hnew,hlt,hcm,hxc,hfx,hob⟩=>?_
 rcases hob with⟨rfl,rfl⟩|⟨b,us,rfl,hb,hh,hsz,h1,hrp,hns⟩
 ·have hx:xs=[]:=qAf oM
  subst hx
  exact⟨_,St',he,.slice none n 0 0 [] [] hn (by rw[hn];exact qAN _) (qAO _) sI rfl sI sI sI,hbel,hkeep,hnew,hlt⟩
 ·let St2:Stab:=fun c o=>St' c o\/(c=b/\o<xs.length*sz)
  have kp:Keep St' w' St2 w':=⟨fun _ _ h=>.inl h,fun _ _ _ _ h=>h,fun _ _=>rfl⟩
  have hul:xs.length*sz<=us.size:=by rw[hsz];exact qAy _ hxc
  have hfl:(zC2 xs).length=xs.length*sz:=zCQ hfx
  have hnew2:∀c o,St2 c o->St c o\/w.heap.size<=c:=fun c o hc=>by
   rcases hc with hc|⟨rfl,_⟩
   ·exact hnew c o hc
   ·exact .inr hb
  have hlt2:∀c o,St2 c o->c<w'.heap.size:=fun c o hc=>by
   rcases hc with hc|⟨rfl,_⟩
   ·exact hlt c o hc
   ·exact(qAn.1 hh).1
  have hSt2:∀o,o<xs.length*sz->St2 b o:=fun o ho=>.inr ⟨rfl,ho⟩
  have hx0:n=xs.length/\n<=cap:=⟨hn,by omega⟩
  clear_value St2
  generalize xs.length*sz=m at *
  refine⟨_,St2,he,?_,hbel,hkeep.trans kp,hnew2,hlt2⟩
  ·refine .slice _ n _ sz _ (us.toList.take m) hn hx0.2 hcm hfx ?_ ?_ ?_ ?_
   ·rw[qAU,qAV,hfl];omega
   ·intro u hu
    obtain⟨j,hj,rfl⟩:=qBf.1 hu
    rw[List.getElem_take]
    rw[qAU,qAV]at hj
    exact h1 j _ oM (by rw[Array.getElem_toList];exact qAP oM)
   ·intro _
    refine⟨⟨b,0,none⟩,rfl,fun j u hj=>?_⟩
    rw[qAd]at hj
    split at hj
    ·rename_i hlt2
     refine⟨hSt2 _ (by show 0+j<m;omega),?_⟩
     rw[Addr.add_lit,qAS,cell_of_row w' b j us e (0,0) hh]
     simpa using hj
    ·cases hj
   ·intro j u d hj hd
    rw[qAd]at hj
    split at hj
    ·exact(hrp j u d pAK hd).keep kp
    ·cases hj
section
variable {C:Ctx}{l r:List Oper}{es:List Nat}{ηs:List (List Ob)}{j:Nat}{ss:List SV}{σ:Sl}{e0:Nat}{dead:List Nat}{nob:SV->Bool}
theorem CoL.congr{η:List Ob}{σ τ:Sl}: ∀{xs:List Operand} {ds:List D},(∀x∈xs,oval τ x=oval σ x)->CoL η σ xs ds->CoL η τ xs ds
 |[],[],_,h=>h
 |x::xs,d::ds,e,h=>⟨by rw[e x sI];exact h.1,CoL.congr (fun y hy=>e y (by simp[hy])) h.2⟩
 |[],_::_,_,h=>h.elim
 |_::_,[],_,h=>h.elim
theorem zLp{f:FuncId}{args:List Operand}{ts:Array TypeId}{ty pos after}{ds:List D}{d n e sz id:Nat}{xs:List D}{ηi:List Ob}(i:Nat)(hb:zAQ C.P f=true)(hc:FCall C.P f ds n e sz xs)(hi:idxC es j=some i)(hje:Nat.beq j e0=false)(hηi:ηs.getD i []=ηi)(ha:CoL ηi σ args ds)(hd:Nat.blt d C.N=true)(hro:Nat.ble C.ro ηi.length=true)(hid:ηi.length=id)
  (hη:ηs.getD (i+1) []=ηi++[.buf true e sz xs]) (hr:segK C l es ηs e0 dead nob (j+1) r ss (put σ (some d) (.buf id n))):segK C l es ηs e0 dead nob j (⟨some d,.call ⟨.value (.func f),args.toArray,ts⟩,ty,pos,after,none⟩::r) (.buf id n::ss) σ:=by
 subst hid
 refine⟨⟨rfl,hd,?_⟩,hr⟩
 unfold zKU;rw[hi]
 intro τ hτ _
 rw[hηi,hη,hje]
 refine EStep.of (ops:=l.toArray) (zPE hb hc (ha.congr fun x hx=>?_) hd hro (zAD ⟨Le.refl _,rfl⟩))
 cases x with
 |tmp u=>exact hτ u (zB2 (by simp[Op.operands,Call.operands,hx]))
 |_=>rfl
theorem zTq{t x y ty pos after}{d id n m e sz by':Nat}{xs ys:List D}{ηi:List Ob}(i:Nat)(hi:idxC es j=some i)(hje:Nat.beq j e0=true)(hx:oval σ x=.buf id n)(hηi:ηs.getD i []=ηi)(ho:ηi[id]?=some (.buf true e sz xs))(hy:oval σ y=.d (.slice ys))(hn:n=xs.length)(hm:m=ys.length)
  (he:zCB C.P t=some e) (hs:zBU C.P t=some sz) (hz:zDf C.P e=some sz) (hb:zDZ C.P t=some by') (hd:Nat.blt d C.N=true) (hro:Nat.ble C.ro id=true) (hf:∀d∈ys,d.flat.length=sz) (hlen:(n+m)*by'<=140737488355328/\n+m<=140737488355328)
  (hη:ηs.getD (i+1) []=(zFR id ηi).set id (.buf false e sz (xs++ys))) (hr:segK C l es ηs e0 dead (nobB id) (j+1) r ss (put σ (some d) (.buf id (n+m)))):segK C l es ηs e0 dead (nobB id) j (⟨some d,.call ⟨.builtin .append, #[x,y], #[t,t]⟩,ty,pos,after,none⟩::r) (.buf id (n+m)::ss) σ:=by
 refine⟨⟨rfl,hd,?_⟩,hr⟩
 unfold zKU;rw[hi]
 intro τ hτ hno
 have ex:∀z:Operand,z∈(Op.call ⟨.builtin .append, #[x,y], #[t,t]⟩).operands->oval τ z=oval σ z:=fun z hz=>by
  cases z with
  |tmp u=>exact hτ u (zB2 hz)
  |_=>rfl
 have hno:=hno hje
 have hl:id<(zFR id ηi).length:=by rw[zIf];exact(qAA.1 ho).1
 rw[hηi,hη,hje]
 refine EStep.of (ops:=l.toArray) (aApp (by rw[ex x pAG];exact hx) ho (by rw[ex y pAG,hy];exact zAr rfl) hn hm he hs hz hb hd hro hf hlen (zQF id (by rw[qAh,if_pos rfl,if_pos hl]) rfl hro (zAD ⟨fun u=>?_,by rw[List.set_set]⟩)))
 by_cases hu:u∈dead
 ·exact .inr (zZw hu)
 ·refine .inl ?_
  rw[zOO hu,put,zBl,zBl]
  split
  ·rfl
  ·rw[zIn,zOE (hno u hu)]
theorem zTo{o:Oper}{s:SV}(lo up:Nat)(hi:idxC es j=none)(hg:o.guard=none)(hd:zFA C.N o.dst)(hlo:Nat.beq (lowC l es j) lo=true)(hup:Nat.beq (upC l es j) up=true)(h:YAll C σ o s ((ηs.take (up+1)).drop lo))(hr:segK C l es ηs e0 dead nob (j+1) r ss (put σ o.dst s)): segK C l es ηs e0 dead nob j (o::r) (s::ss) σ :=
 zTn hi hg hd (by rw[qAX hlo,qAX hup];exact h) hr
end
section
variable {C:Ctx}{ops:Array Oper}{rest:List Oper}{K:Sl->List Ob->Prop}{σ:Sl}{η:List Ob}{d:Nat}{ty:TypeId}{pos:String}{after:Array Edge}{gd:Option (Nat×Bool)}{t:TypeId}{x:Operand}
theorem zcK{sz e n:Nat}{xs:List Operand}{ds:List D}(he:zCB C.P t=some e)(hs:zBU C.P t=some sz)(hz:(zBv C.P e).isSome=true)(hp:Nat.blt 0 sz=true)(hb:Nat.ble (n*sz) 16777216=true)
  (hl:xs.length=n) (hc:CoL η σ xs ds) (hf:∀d∈ds,d.flat.length=sz) (hok:ds.all okc=true) (hd:Nat.blt d C.N=true) (hro:Nat.ble C.ro η.length=true) {parts:Array (Nat×Operand)} (hparts:parts=((xs.zipIdx 0).map fun x=>(x.2,x.1)).toArray)
  (h:alex C false ops rest K ((d,.buf η.length ds.length)::σ) (η++[.buf true e sz ds])) :
  zBJ C false ops ⟨some d,.buildSlice t n parts,ty,pos,after,gd⟩ rest K σ η:=by
 have hp:0<sz:=by simpa using hp
 have hb:=qAM hb
 subst hparts
 refine zIo (fun g a w ha=>?_) h
 obtain⟨e',i,hu,hi,hsz⟩:=zB4 hs
 have:e'=e:=by have:=zCw he;rw[hu]at this;injection this with this;injection this
 subst this
 have hrep:=CoL.rep (a:=a) ha.inv xs ds (fun x _=>ha.eval x) hc
 have hlen:=hrep.len
 rw[qAE]at hlen
 obtain⟨i1,i2⟩:=RepDs.cells _ ds hrep hf hok
 have hfl:=zFx (sz:=sz) (xs.map a.eval) (fun v hv=>(i1 v hv).1)
 rw[qAE,hl]at hfl
 let us:=((xs.map a.eval).flatMap fun v=>v.cells.toList).toArray
 have hus:us.size=n*sz:=by simpa[us]using hfl
 have hpe:((((xs.zipIdx 0).map fun x=>(x.2,x.1)).toArray).map fun (p:Nat×Operand)=>(p.1,a.eval p.2)).toList=(((xs.map a.eval).zipIdx 0).map fun x=>(x.2,x.1)):=by
  simp[List.zipIdx_map,List.map_map,Function.comp_def]
 have hrun:(Instr.buildSlice t n ((((xs.zipIdx 0).map fun x=>(x.2,x.1)).toArray).map fun (p:Nat×Operand)=>(p.1,a.eval p.2))).run C.P w=.ok (.slice (some ⟨w.heap.size,0,none⟩) n n) (w.alloc (.cells us e')):=by
  have hzz:∃z,i.zero=some z:=by
   unfold zBv at hz;rw[hi]at hz
   cases hq:i.zero with
   |none=>simp[hq]at hz
   |some z=>exact⟨z,rfl⟩
  obtain⟨z,hzz⟩:=hzz
  by_cases h0:n=0
  ·subst h0
   have hx:xs=[]:=qAf hl
   subst hx
   simp[Instr.buildSlice,run_underlying hu,sizeOf,typeInfo,hi,newRow,Instr.fill,us,Array.range_zero']
  ·have hne:¬n*i.size=0:=by rw[hsz];intro h;rcases Nat.mul_eq_zero.1 h with h|h <;> omega
   have hfw:=Great.fill_whole hp (xs.map a.eval) ((Array.range (n*i.size)).map (z.cells[· % z.cells.size]!)) (fun v hv=>(i1 v hv).1) (by simp[hl,hsz])
   exact run_buildSlice w t e' n _ us i z hu hi hzz (by rw[hsz];omega) hne (by rw[hpe];rw[<-hsz]at hfw;exact hfw)
 have hbuf:=ha.newBuf (w':=w.alloc (.cells us e')) true e' sz n us ds rfl rfl rfl sI (fun k hk=>Below.heap_alloc w _ k hk) (_root_.Go.heap_alloc_new w _) (qAM hro) hf oM (by simp only[maxLen];have:n*1<=n*sz:=Nat.mul_le_mul_left _ hp;omega) hus
  (fun j u _ hu=>by
   have hm:=Array.mem_of_getElem? hu
   simp only[us,List.mem_toArray,List.mem_flatMap]at hm
   obtain⟨v,hv,hm⟩:=hm
   exact(i1 v hv).2 u (by simpa using hm))
  (fun j u d hu hd=>i2 j u d (by simpa[us]using hu) hd)
 refine⟨_,_,by simp only[execOp,Sem.run_bind];rw[hrun];rfl,_,hbuf.put (d:=some d) hd ?_⟩
 refine⟨?_,?_⟩
 ·show η.length<g.n+1;have:=ha.inv.n;omega
 ·have hn:=ha.inv.n
  show _=Value.slice ((upd g.blk g.n (some w.heap.size) η.length).map _) _ (upd g.cap g.n n η.length)
  rw[<-hn,<-hlen,hl];simp[upd]
theorem zcL{sz e:Nat}{ds:List D}(he:zCB C.P t=some e)(hs:zBU C.P t=some sz)(hz:(zBv C.P e).isSome=true)(hp:Nat.blt 0 sz=true)(hb:Nat.ble (1*sz) 16777216=true)(hd:Nat.blt d C.N=true)(hro:Nat.ble C.ro η.length=true)(hc:CoL η σ [x] ds)(hf:zPc ds sz=true)
  (h:alex C false ops rest K ((d,.buf η.length ds.length)::σ) (η++[.buf true e sz ds])):zBJ C false ops ⟨some d,.buildSlice t 1 #[(0,x)],ty,pos,after,gd⟩ rest K σ η :=
 zcK (xs:=[x]) he hs hz hp hb rfl hc (zDg hf).1 (zDg hf).2 hd hro (by rfl) h
theorem zY5{sz e:Nat}(he:zCB C.P t=some e)(hs:zBU C.P t=some sz)(hz:(zBv C.P e).isSome=true)(hp:Nat.blt 0 sz=true)(hd:Nat.blt d C.N=true)(hro:Nat.ble C.ro η.length=true)
  (h:alex C false ops rest K ((d,.buf η.length 0)::σ) (η++[.buf true e sz []])):zBJ C false ops ⟨some d,.buildSlice t 0 #[],ty,pos,after,gd⟩ rest K σ η :=
 zcK (xs:=[]) (ds:=[]) he hs hz hp sI rfl zAF sI rfl hd hro (by rfl) h
end
