/- Parts. -/
import Derived.Test.YtjcgiiedaccjpaaGreatDoorPAJ
set_option maxHeartbeats 16000000
namespace Go.Proofs.YtjcgiiedaccjpaaGreatDoor
open _root_.Go.Proofs.Tryz
open Go.Sx Go.RowKit
attribute [local irreducible] Ylds zBJ alex zBk zBZ awp zAX FCall zBo zBb zBD zBd zBj zBn
def popF: List Int->List Int
 |0::y::r=>popF ((y-1)::r)
 |[0]=>[]
 |s=>s
termination_by s=>s.length
def zGk: List Nd->Int->List Int->Int
 |[],m,_=>m
 |x::r,m,s=>zGk r (max m (s.length+1)) (popF (x.kids::s))
def zF2(L:List Nd): Int:=if zDA L then zGk L 0 []else 0
theorem zKs: (zBU prog 103).isSome=true:=by rw[zBK];rfl
theorem zKg(y:Int)(r:List Int): popF (0::y::r)=popF ((y-1)::r):=by rw[popF]
theorem zQt: popF [0]=[]:=by rw[popF]
theorem zQu: popF []=[]:=by rw[popF] <;> simp
theorem zJE{y:Int}{r:List Int}(h:¬y=0): popF (y::r)=y::r:=by
 rw[popF]
 ·rintro y' r' h1;injection h1 with h1;exact h h1
 ·rintro h1;injection h1 with h1;exact h h1
def stk(s:List Int)(tl:List D): List D:=s.reverse.map ival++tl
theorem zYe(y:Int)(r:List Int)(tl:List D): (stk (y::r) tl)[r.length]?=some (ival y):=by
 simp[stk]
theorem zZe(y z:Int)(r:List Int)(tl:List D): (stk (y::r) tl).set r.length (ival z)=stk (z::r) tl:=by
 simp[stk]
theorem zPY(y:Int)(r:List Int)(tl:List D): stk (y::r) tl=stk r (ival y::tl):=by
 simp[stk]
theorem zTe(y:Int)(r:List Int)(tl:List D): (stk (y::r) tl)[(((y::r).length:Int)-1).toNat]?=some (ival y):=by
 rw[show ((((y::r).length:Nat):Int)-1).toNat=r.length by simp];exact zYe y r tl
theorem zZf(y z:Int)(r:List Int)(tl:List D): (stk (y::z::r) tl)[((((((y::z::r).length:Int)-1).toNat:Nat):Int)-1).toNat]?=some (ival z):=by
 rw[show ((((((y::z::r).length:Int)-1).toNat:Nat):Int)-1).toNat=r.length by simp,zPY];exact zYe z r _
theorem zWh(y z c:Int)(r:List Int)(tl:List D): (stk (y::z::r) tl).set ((((((y::z::r).length:Int)-1).toNat:Nat):Int)-1).toNat (ival c)=stk (c::r) (ival y::tl):=by
 rw[show ((((((y::z::r).length:Int)-1).toNat:Nat):Int)-1).toNat=r.length by simp,zPY,zZe]
theorem zWi(y:Int)(r:List Int)(tl:List D): (stk r tl).take r.length++[ival y]=stk (y::r) []:=by
 have:(r.reverse.map ival++tl).take r.length=r.reverse.map ival:=by
  rw[List.take_append_of_le_length sI,qAe sI]
 rw[stk,this];simp[stk]
theorem zPZ(r:List Int)(tl:List D): r.length<=(stk r tl).length:=by simp[stk]
theorem zOp{n:Nat}: ∀{l:List Nd} {o a:Int},0<=a->zF5 n l o a=a+l.length->l≠[]->∀x∈l,0<=x.kids/\x.kids<=n
 |[],_,_,_,_,h=>absurd rfl h
 |y::r,o,a,ha,h,_=>by
  unfold zF5 at h
  intro x hx
  split at h
  ·simp only[qAK]at h;omega
  ·rename_i hk
   split at h
   ·rcases qAq.1 hx with rfl|hx
    ·omega
    ·refine zOp (o:=o+(y.kids-1)) (a:=a+1) oM ?_ (List.ne_nil_of_mem hx) x hx
     rw[h];simp only[qAK];omega
   ·simp only[qAK]at h
    have:r=[]:=List.length_eq_zero_iff.1 oM
    subst this
    rcases qAq.1 hx with rfl|hx
    ·omega
    ·cases hx
theorem zR7{L:List Nd}(hw:zDA L=true)(i:Nat)(v:Nd)(hv:L[i]?=some v): 0<=v.kids/\v.kids<=(L.length:Int):=by
 simp[zDA]at hw
 have h1:zF5 L.length L 1 0=0+L.length:=by
  have:=hw.2;rw[endF,if_neg oM]at this;simpa using this
 exact zOp oM h1 (by rintro rfl;simp at hw) v (qAC hv)
theorem za5(L:List Nd)(hL:L.length<=1000000): zAX prog 124 [zAu L] (i64 (zF2 L)):=by
 refine zAc func124 rfl ntmps124 results124 rfl ?_
 intro wb St0
 repeat' first|apply en_n|apply zAE|apply zAA|apply zAD|apply w0|(apply zAP (hb:=zHd) (hc:=zKC L oM))|refine ayA rfl ?_|apply ay (hd:=rfl)|(apply zCd;exact rfl;all_goals intro hb)|apply zAH|apply zAM|apply zAN|apply en_r|apply zAO|refine res1 rfl ?_|exact zAF|refine zAL rfl ?_
 ·rw[zF2,if_neg (by simpa using hb)]
 ·have hw:zDA L=true:=by simpa using hb
  have hkb:=zR7 hw
  refine zEd 3 true 3 1 rfl rfl ?_
  refine zAt (α:=Nat×Int×List Int×List D) (fun p=>p.1<=L.length/\zGk (L.drop p.1) p.2.1 p.2.2.1=zF2 L/\p.2.2.1.length<=p.1/\(0<=p.2.1/\p.2.1<=1000001)/\∀e∈p.2.2.1,-(p.1:Int)+p.2.2.1.length<=e/\e<=1000000)
   (fun p=>[(3,.buf 0 p.2.2.1.length),(4,.d (i64 p.2.1)),(10,.d (zAu L)),(11,.d (i64 (L.length:Int))),(12,.d (i64 (p.1:Int)))]) (fun p=>[.buf true 3 1 (stk p.2.2.1 p.2.2.2)]) (fun p=>L.length-p.1) (0,0,[],[]) ⟨qAO _,by rw[zF2,if_pos hw];rfl,qAN _,⟨Int.le_refl 0,by decide⟩,by simp⟩
   (zAV (Le_all rfl) (zAT rfl rfl zAW) rfl rfl) ?_
  rintro⟨i,m,st,tl⟩ ⟨hi,hd,hs,hm,he⟩
  simp only at hi hd hs hm he ⊢
  repeat' first|apply en_n|apply zAE|apply zAA|apply zAD|apply w0|(apply zcN (sz:=1) (mu:=true) (hd:=rfl) (hro:=rfl);exact rfl;exact rfl;rotate_left;exact(fun h=>nomatch h);exact zAr rfl;exact rfl;(with_reducible exact zEP);(with_reducible exact zBK);(with_reducible exact zNW);(with_reducible exact zLJ);exact zDP rfl;rotate_right)|(apply aI (hd:=rfl);(first|exact zAr rfl|exact Co_bb rfl rfl rfl|exact Co_nn rfl);exact rfl;(with_reducible exact zAe);exact fun _=>rfl;rotate_left;intro v hv;rotate_right)|refine aAlA ?_|refine ayA rfl ?_|refine ayL rfl ?_|apply ay (hd:=rfl)|exact zCt rfl rfl|refine zBN rfl rfl ?_|exact zdJ rfl rfl|(refine w0' ?_)|refine aStA ?_|(apply zA3;exact rfl;all_goals intro hb)|apply zAH|apply zAM|apply zAN|apply zAz|apply en_e|apply eb_e|apply zAO|refine res1 rfl ?_
  ·omega
  ·omega
  ·exact zPZ _ _
  ·simp only[qAr];omega
  ·simp only[qAr];omega
  ·have hk:=hkb i v hv
   have hvi:L[i]?=some v:=hv
   have hout:∀s,popF s=popF (v.kids::st)->popF s=s->zGk (L.drop (i+1)) (max m ((st.length:Int)+1)) s=zF2 L:=by
    intro s h1 h2
    obtain⟨hil,hev⟩:=qAA.1 hvi
    rw[<-hd,qAW hil,hev,zGk,<-h1,h2]
   refine zAt (α:=List Int×List D) (fun p=>popF p.1=popF (v.kids::st)/\p.1.length<=i+1/\∀e∈p.1,-((i:Int)+1)+p.1.length<=e/\e<=1000000)
    (fun p=>[(3,.buf 0 p.1.length),(4,.d (i64 (max m ((st.length:Int)+1)))),(10,.d (zAu L)),(11,.d (i64 (L.length:Int))),(12,.d (i64 (i:Int)))]) (fun p=>[.buf true 3 1 (stk p.1 p.2)]) (fun p=>p.1.length) (v.kids::st,[]) ⟨rfl,by simp only[qAK];omega,?_⟩
    (zAV (zCR rfl rfl (Le_all rfl)) (zBa rfl rfl (zWi _ _ _).symm zAW) rfl rfl) ?_
   ·intro e he'
    rcases qAq.1 he' with rfl|he'
    ·simp only[qAK];omega
    ·have:=he e he';simp only[qAK];omega
   rintro⟨s,tl'⟩ ⟨hp,hl,hb'⟩
   simp only at hp hl hb' ⊢
   rcases s with _|⟨y,_|⟨z,r⟩⟩
   ·skip
    repeat' first|apply en_n|apply zAE|apply zAA|apply zAD|apply w0|refine ayA rfl ?_|apply ay (hd:=rfl)|exact zF4 rfl rfl|refine zBN rfl rfl ?_|refine k1 (hd:=rfl) rfl rfl ?_|refine zAK rfl ?_|apply zAz|apply en_e|apply eb_n|apply eb_e
    ·omega
    ·refine⟨(i+1,max m ((st.length:Int)+1),[],tl'),⟨by simp only;omega,hout _ hp zQu,hl,⟨by simp only;omega,by simp only;omega⟩,fun e h0=>by have:=hb' e h0;simp only;omega⟩,by simp only;omega,zAV (Le_all rfl) (zAT rfl rfl zAW) rfl rfl⟩
   ·have hsl:=zPZ [y] tl'
    have hy:=hb' y sI
    repeat' first|apply en_n|apply zAE|apply zAA|apply zAD|apply w0|(refine zWB (hro:=rfl) rfl rfl rfl (by with_reducible exact zAa) rfl rfl ?_ ?_)|(refine zPJ rfl rfl rfl (by with_reducible exact zBK) ?_ ?_)|(refine zNQ rfl (by with_reducible exact zAa) rfl (zTe _ _ _) rfl)|(refine zY7 rfl (by with_reducible exact zKs) rfl ?_ ⟨_,_,_,_,rfl,?_⟩)|refine ayA rfl ?_|apply ay (hd:=rfl)|exact zF4 rfl rfl|exact zDz rfl rfl|refine zBN rfl rfl ?_|refine zI1 rfl rfl ?_|refine w1 rfl rfl ?_|(refine w0' ?_)|(apply zA3;exact rfl;all_goals intro hb)|apply zAH|apply zAM|apply zAz|apply en_e|apply eb_n|apply eb_e
    all_goals try (simp only[qAK,qAb]at *;omega)
    ·rename_i hy0
     refine⟨([],ival y::tl'),⟨by rw[<-hp,hy0,zQt,zQu],qAO _,by simp⟩,by simp,zAV (zCR rfl rfl (Le_all rfl)) (zBa rfl rfl (zPY y [] tl').symm zAW) rfl rfl⟩
    ·refine⟨(i+1,max m ((st.length:Int)+1),[y],tl'),⟨by simp only;omega,hout _ hp (zJE hb),hl,⟨by simp only;omega,by simp only;omega⟩,fun e h0=>by have:=hb' e h0;simp only;omega⟩,by simp only;omega,zAV (Le_all rfl) (zAT rfl rfl zAW) rfl rfl⟩
   ·have hsl:=zPZ (y::z::r) tl'
    have hy:=hb' y sI
    have hz:=hb' z sI
    repeat' first|apply en_n|apply zAE|apply zAA|apply zAD|apply w0|(refine zWB (hro:=rfl) rfl rfl rfl (by with_reducible exact zAa) rfl rfl ?_ ?_)|(refine zPJ rfl rfl rfl (by with_reducible exact zBK) ?_ ?_)|(refine zNQ rfl (by with_reducible exact zAa) rfl (zTe _ _ _) rfl)|(refine zNQ rfl (by with_reducible exact zAa) rfl (zZf _ _ _ _) rfl)|(refine zY7 rfl (by with_reducible exact zKs) rfl ?_ ⟨_,_,_,_,rfl,?_⟩)|refine ayA rfl ?_|apply ay (hd:=rfl)|exact zF4 rfl rfl|exact zDz rfl rfl|refine zBN rfl rfl ?_|refine zI1 rfl rfl ?_|refine w1 rfl rfl ?_|refine k1 (hd:=rfl) rfl rfl ?_|(apply gD;exact rfl;exact rfl;all_goals intro hb)|(refine w0' ?_)|(apply zA3;exact rfl;all_goals intro hb)|refine zAK rfl ?_|apply zAH|apply zAM|apply zAz|apply en_e|apply eb_n|apply eb_e
    all_goals try (simp only[qAK]at *;omega)
    ·rename_i hy0
     refine⟨((z-1)::r,ival y::tl'),⟨?_,?_,?_⟩,by simp,zAV (zCR rfl ?_ (Le_all rfl)) (zBa rfl rfl (zWh y z (z-1) r tl').symm zAW) rfl rfl⟩
     ·rw[<-hp,hy0,zKg]
     ·simp only[qAK]at *;omega
     ·intro e h0
      rcases qAq.1 h0 with rfl|h0
      ·simp only[qAK]at *;omega
      ·have:=hb' e (by simp[h0]);simp only[qAK]at *;omega
     ·simp only[qAK];omega
    ·refine⟨(i+1,max m ((st.length:Int)+1),y::z::r,tl'),⟨by simp only;omega,hout _ hp (zJE hb),hl,⟨by simp only;omega,by simp only;omega⟩,fun e h0=>by have:=hb' e h0;simp only;omega⟩,by simp only;omega,zAV (Le_all rfl) (zAT rfl rfl zAW) rfl rfl⟩
  ·rw[<-hd,qAa oM];rfl
def zEY(L:List Nd): Nat->Int->Int
 |0,_=>1
 |n+1,a=>(zB3 L a).foldl (fun m k=>max m (zEY L n k)) 0+1
theorem zN7(L:List Nd): ∀(n:Nat) (a:Int),1<=zEY L n a/\zEY L n a<=n+1
 |0,a=>by simp[zEY]
 |n+1,a=>by
  have h:∀(ks:List Int) (m:Int),0<=m->m<=n+1->0<=ks.foldl (fun m k=>max m (zEY L n k)) m/\ks.foldl (fun m k=>max m (zEY L n k)) m<=n+1:=by
   intro ks
   induction ks with
   |nil=>intro m h1 h2;exact⟨h1,h2⟩
   |cons k ks ih =>
    intro m h1 h2
    have:=zN7 L n k
    have h3:0<=max m (zEY L n k):=by omega
    have h4:max m (zEY L n k)<=n+1:=by omega
    exact ih _ h3 h4
  have:=h (zB3 L a) 0 oM oM
  rw[zEY];push_cast;omega
theorem zbZ{L:List Nd}{a k:Int}(h:k∈zB3 L a): a<k:=by
 unfold zB3 at h
 split at h
 ·cases h
 ·rename_i h1
  obtain⟨n,x,hak,hx,h0,h1',he,hn,hf⟩:=kid_at h1
  rw[hn]at h
  obtain⟨i,hi,rfl⟩:=qAo.1 h
  rw[qBY]at hi
  have:0<=seqE L (a+1) i:=by
   rcases Int.lt_or_le (seqE L (a+1) i) 0 with h4|h4
   ·have:=zIQ (j:=x.kids.toNat) h4 oM;omega
   ·exact h4
  have:=zKT this;omega
theorem zUa{L:List Nd}{a:Int}(h:(L.length:Int)<=a): zB3 L a=[]:=by
 rw[zB3,if_pos];rw[zJ7 (.inr h)];omega
theorem zL9{α β:Type}(f:β->α->β)(b:β){l:List α}{i:Nat}{v:α}(h:l[i]?=some v): (l.take (i+1)).foldl f b=f ((l.take i).foldl f b) v:=by
 rw[qAu,h,List.foldl_append];rfl
theorem zWs(L:List Nd)(hL:L.length<=1000000): ∀(m:Nat) (at_:Int),m<=2000000->(L.length:Int)-at_<=m->zAX prog 52 [zAu L,i64 at_] (i64 (zEY L (m+1) at_)):=by
 intro m
 induction m with
 |zero =>
  intro at_ _ hm
  refine zAc func52 rfl ntmps52 results52 rfl ?_
  intro wb St0
  have hk:=zUa (L:=L) (a:=at_) oM
  repeat' first|apply en_n|apply zAE|apply zAA|apply zAD|apply w0|(apply zAP (hb:=zD8) (hc:=zGB L _ oM))|refine ayA rfl ?_|apply ay (hd:=rfl)|apply zAH|exact zAF|refine zAL rfl ?_
  rw[hk]
  refine zAt (α:=Unit) (fun _=>True) (fun _=>[(0,.d (zAu L)),(1,.d (i64 at_)),(5,.d (i64 0)),(6,.d (zBq [])),(7,.d (i64 0))]) (fun _=>[]) (fun _=>0) () trivial
   (zAV (Le_all rfl) zAW rfl rfl) ?_
  intro _ _
  repeat' first|apply en_n|apply zAE|apply zAA|apply zAD|apply w0|(exfalso;simp at hv;done)|(apply aI (hd:=rfl);(first|exact zAr rfl|exact Co_bb rfl rfl rfl|exact Co_nn rfl);exact rfl;(with_reducible exact zBK);exact fun _=>rfl;rotate_left;intro v hv;rotate_right)|refine ayA rfl ?_|apply ay (hd:=rfl)|exact zCt rfl rfl|refine zBN rfl rfl ?_|(apply zA3;exact rfl;all_goals intro hb)|apply zAH|apply zAM|apply zAN|apply zAz|apply en_e|apply eb_e|apply zAO|refine res1 rfl ?_
  ·simp at hb
  ·decide
  show _=i64 ((zB3 L at_).foldl (fun m k=>max m (zEY L 0 k)) 0+1)
  rw[hk];rfl
 |succ m ih =>
  intro at_ hm2 hm
  refine zAc func52 rfl ntmps52 results52 rfl ?_
  intro wb St0
  repeat' first|apply en_n|apply zAE|apply zAA|apply zAD|apply w0|(apply zAP (hb:=zD8) (hc:=zGB L _ oM))|refine ayA rfl ?_|apply ay (hd:=rfl)|apply zAH|exact zAF|refine zAL rfl ?_
  have hkl:(zB3 L at_).length<=1000000:=by
   rcases Int.lt_or_le (endF L at_) 0 with h|h
   ·rw[zB3,if_pos h];exact qAO _
   ·obtain⟨k,x,hak,hx,h0,h1,he,hn,hf⟩:=kid_at (L:=L) (a:=at_) oM
    rw[hf,qAE,qA6];omega
  refine zAt (α:=Nat) (fun j=>j<=(zB3 L at_).length/\0<=((zB3 L at_).take j).foldl (fun m' k=>max m' (zEY L (m+1) k)) 0/\((zB3 L at_).take j).foldl (fun m' k=>max m' (zEY L (m+1) k)) 0<=2000003) (fun j=>[(0,.d (zAu L)),(1,.d (i64 at_)),(5,.d (i64 (((zB3 L at_).take j).foldl (fun m' k=>max m' (zEY L (m+1) k)) 0))),(6,.d (zBq (zB3 L at_))),(7,.d (i64 (j:Int)))]) (fun _=>[]) (fun j=>(zB3 L at_).length-j) 0 ⟨qAO _,Int.le_refl 0,by simp⟩
   (zAV (Le_all rfl) zAW rfl rfl) ?_
  rintro j ⟨hj,hj0,hj1⟩
  repeat' first|apply en_n|apply zAE|apply zAA|apply zAD|apply w0|refine ycA zIk (ih _ oM ?_)|(apply aI (hd:=rfl);(first|exact zAr rfl|exact Co_bb rfl rfl rfl|exact Co_nn rfl);exact rfl;(with_reducible exact zBK);exact fun _=>rfl;rotate_left;intro v hv;rotate_right)|refine ayA rfl ?_|apply ay (hd:=rfl)|exact zCt rfl rfl|exact zF4 rfl rfl|refine zBN rfl rfl ?_|(apply zA3;exact rfl;all_goals intro hb)|apply zAH|apply zAM|apply zAN|apply zAz|apply en_e|apply eb_n|apply eb_e|apply zAO|refine res1 rfl ?_
  ·omega
  ·have:=zbZ (qAC hv);omega
  ·omega
  ·have hf:=zL9 (fun m' k=>max m' (zEY L (m+1) k)) 0 (i:=j) hv
   have h5:=zN7 L (m+1) v
   refine⟨j+1,⟨by omega,?_,?_⟩,by omega,zAV (Le_cons rfl (Le_cons rfl (Le_d rfl ?_ (Le_all rfl)))) zAW rfl rfl⟩
   ·rw[hf];show 0<=max _ _;omega
   ·rw[hf];show max _ _<=_;omega
   ·rw[hf];show D.val (.int .i64 (max _ _))=_;rw[Int.max_eq_right oM]
  ·omega
  ·have hf:=zL9 (fun m' k=>max m' (zEY L (m+1) k)) 0 (i:=j) hv
   refine⟨j+1,⟨by omega,?_,?_⟩,by omega,zAV (Le_cons rfl (Le_cons rfl (Le_d rfl ?_ (Le_all rfl)))) zAW rfl rfl⟩
   ·rw[hf];show 0<=max _ _;omega
   ·rw[hf];show max _ _<=_;omega
   ·rw[hf];show D.val (.int .i64 (max _ _))=_;rw[Int.max_eq_left oM]
  ·omega
  ·rw[show j=(zB3 L at_).length by omega,qBF];rfl
end Go.Proofs.YtjcgiiedaccjpaaGreatDoor
namespace Go.Proofs.YtjcgiiedaccjpaaGreatDoor
inductive FD:List Nd->Nat->Nat->Prop
 |nil:FD [] 0 0
 |cons (x:Nd) (ks r:List Nd) (n j d e:Nat) (hx:x.kids=n) (h1:FD ks n d) (h2:FD r j e):FD (x::(ks++r)) (j+1) (max (d+1) e)
theorem FD.zero{l:List Nd}{d:Nat}(h:FD l 0 d): l=[]/\d=0:=by
 cases h;exact⟨rfl,rfl⟩
theorem za4: ∀(N:Nat) {l:List Nd} {j k:Nat},l.length<=N->cns l j=some k->∃d,FD (l.take k) j d
 |N,l,0,k,_,h=>by rw[zGK]at h;injection h with h;subst h;exact⟨0,.nil⟩
 |N,[],j+1,k,_,h=>by cases h
 |0,x::r,j+1,k,hN,h=>by simp at hN
 |N+1,x::r,j+1,k,hN,h=>by
  rw[zEQ]at h
  split at h
  ·cases h
  ·rename_i h0
   rw[Nat.add_comm j,zLG]at h
   cases h1:cns r x.kids.toNat with
   |none=>rw[h1]at h;cases h
   |some k1 =>
    rw[h1]at h;simp only[qBQ]at h
    cases h2:cns (r.drop k1) j with
    |none=>rw[h2]at h;cases h
    |some k2 =>
     rw[h2]at h;simp only[qBG,qBt]at h;subst h
     simp only[qAK]at hN
     obtain⟨d,f1⟩:=za4 N oM h1
     obtain⟨e,f2⟩:=za4 N (by rw[qAg];omega) h2
     refine⟨max (d+1) e,?_⟩
     rw[qBi,Nat.add_comm k2 k1,List.take_add]
     exact .cons x _ _ _ _ d e oM f1 f2
theorem FD.append{l:List Nd}{a d:Nat}(h:FD l a d){r:List Nd}{b e:Nat}(hr:FD r b e): FD (l++r) (a+b) (max d e):=by
 induction h with
 |nil=>simpa using hr
 |cons x ks r' n j d' e' hx h1 h2 _ ih2 =>
  have:=FD.cons x ks (r'++r) n (j+b) d' (max e' e) hx h1 ih2
  rw[qBL,qAY,show j+1+b=j+b+1 by omega,show max (max (d'+1) e') e=max (d'+1) (max e' e) by omega]
  exact this
theorem zP5{l:List Nd}{j d:Nat}(h:FD l j d): ∀(R:List Nd) (m y:Int) (s:List Int),(j:Int)<=y->1<=y->(s.length:Int)+1<=m->zGk (l++R) m (y::s)=zGk R (max m ((s.length:Int)+1+d)) (popF ((y-j)::s)):=by
 induction h with
 |nil =>
  intro R m y s _ h2 h3
  rw[qA9,zJE oM]
  congr 1
  ·omega
  ·simp
 |cons x ks r n j d e hx h1 h2 ih1 ih2 =>
  intro R m y s hj hy hm
  have htail:∀m',(s.length:Int)+1<=m'->zGk (r++R) m' (popF ((y-1)::s))=zGk R (max m' ((s.length:Int)+1+e)) (popF ((y-1-j)::s)):=by
   intro m' hm'
   by_cases hz:y-1=0
   ·have hj0:j=0:=by omega
    subst hj0
    obtain⟨rfl,rfl⟩:=h2.zero
    rw[qA9];congr 1
    ·omega
    ·simp
   ·rw[zJE hz]
    exact ih2 R m' (y-1) s oM oM hm'
  rw[qBL,zGk,qAY,qAK,hx]
  by_cases hn:n=0
  ·subst hn
   obtain⟨rfl,rfl⟩:=h1.zero
   rw[qA9,show ((0:Nat):Int)=0 from rfl,zKg,htail _ oM]
   congr 1
   ·omega
   ·congr 2;omega
  ·rw[zJE oM,ih1 (r++R) _ n (y::s) oM oM (by simp only[qAK];omega),show (n:Int)-n=0 by omega,zKg,htail _ oM,qAK]
   congr 1
   ·omega
   ·congr 2;omega
theorem zMN{T:List Nd}{d:Nat}(hw:zDA T=true)(h:FD T 1 d): zF2 T=d:=by
 rw[zF2,if_pos hw]
 cases h with
 |cons x ks r n j d e hx h1 h2 =>
  obtain⟨rfl,rfl⟩:=h2.zero
  rw[qA0,zGk,hx]
  by_cases hn:n=0
  ·subst hn
   obtain⟨rfl,rfl⟩:=h1.zero
   rw[show ((0:Nat):Int)=0 from rfl,zQt,zGk];rfl
  ·have:=zP5 h1 [] (max 0 (([]:List Int).length+1)) n [] oM oM (by simp only[qAb];omega)
   rw[qA0]at this
   rw[zJE oM,this,zGk];simp;omega
def mxF(KK:List (List Nd)): Int:=KK.foldl (fun m K=>max m (zF2 K)) 0
theorem zOf: ∀(KK:List (List Nd)),(∀K∈KK,zDA K=true)->∃d:Nat,FD KK.flatten KK.length d/\∀m:Int,0<=m->KK.foldl (fun m K=>max m (zF2 K)) m=max m d
 |[],_=>⟨0,.nil,fun m hm=>by simp;omega⟩
 |K::KK,h=>by
  have hK:=h K sI
  obtain⟨d,hd⟩:=za4 K.length (qAN _) ((zGX K).1 hK)
  rw[qBF]at hd
  obtain⟨e,he,hf⟩:=zOf KK (fun K' hK'=>h K' (by simp[hK']))
  refine⟨max d e,?_,fun m hm=>?_⟩
  ·rw[qA7,qAK,Nat.add_comm];exact hd.append he
  ·rw[List.foldl_cons,zMN hK hd,hf _ oM];omega
theorem zVj{T:List Nd}{x:Nd}{KK:List (List Nd)}(hT:T=x::KK.flatten)(hx:x.kids=KK.length)(hw:∀K∈KK,zDA K=true): zF2 T=mxF KK+1/\zDA T=true:=by
 obtain⟨d,hd,hf⟩:=zOf KK hw
 have hn:Node T 0 x KK []:=⟨by rw[qAp,hT,qA0],hx,fun K hK=>(zGX K).1 (hw K hK)⟩
 have hwT:zDA T=true:=by
  have:=hn.cnsEq
  rw[qAp]at this
  rw[zGX,this,hT];rfl
 have h1:=FD.cons x KK.flatten [] KK.length 0 d 0 hx hd .nil
 rw[qA0,<-hT]at h1
 rw[zMN hwT h1,mxF,hf 0 (Int.le_refl 0)]
 exact⟨by omega,hwT⟩
theorem zQq{L:List Nd}: ∀(n a k:Nat),cns (L.drop a) 1=some k->L.length<n+a->zEY L n (a:Int)=zF2 ((L.drop a).take k)
 |0,a,k,h,hn=>by rw[qAa oM]at h;cases h
 |n+1,a,k,h,hn=>by
  obtain⟨x,KK,R,hN,rfl⟩:=zUM h
  have hT:(L.drop a).take (KK.flatten.length+1)=x::KK.flatten:=by rw[hN.drop,qBi,List.take_left]
  rw[(zVj hT hN.kids (fun K hK=>(zGX K).2 (hN.whole K hK))).1,mxF,zEY,hN.kidsEq]
  have key:∀(KK:List (List Nd)) (b:Nat) (R:List Nd) (m:Int),L.drop b=KK.flatten++R->(∀K∈KK,cns K 1=some K.length)->L.length<n+b->
    (zLm (b:Int) KK).foldl (fun m k=>max m (zEY L n k)) m=KK.foldl (fun m K=>max m (zF2 K)) m:=by
   intro KK
   induction KK with
   |nil=>intros;rfl
   |cons K KK ih =>
    intro b R m hd hw hb
    have h1:cns (L.drop b) 1=some K.length:=by
     rw[hd,qA7,qAY];exact zEb _ (hw K sI)
    have h2:=zQq n b K.length h1 hb
    rw[hd,qA7,qAY,List.take_left]at h2
    rw[zLm,List.foldl_cons,List.foldl_cons,h2,show (b:Int)+(K.length:Nat)=((b+K.length:Nat):Int) by omega]
    refine ih (b+K.length) R _ ?_ (fun K' hK'=>hw K' (by simp[hK'])) oM
    rw[<-qBs,hd,qA7,qAY,List.drop_left]
  have:=key KK (a+1) R 0 hN.next hN.whole oM
  rw[show ((a+1:Nat):Int)=(a:Int)+1 by omega]at this
  rw[this]
theorem zPi{L:List Nd}(hw:zDA L=true){n:Nat}(hn:L.length<n): zEY L n 0=zF2 L:=by
 have:=zQq (L:=L) n 0 L.length (by rw[qAp];exact(zGX L).1 hw) oM
 rw[qAp,qBF]at this
 exact this
