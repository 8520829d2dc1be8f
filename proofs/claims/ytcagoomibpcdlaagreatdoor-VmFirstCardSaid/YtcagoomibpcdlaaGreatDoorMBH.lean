/- Parts of the proof. -/
import Derived.OpenShut
import Derived.LaidMore
import Derived.Lay
import Derived.Stop.Joined
import Derived.Stop.LaidErr
import Derived.Shelf.Vars
import Derived.Lib.LaidTab
import Derived.Test.YtcagoomibpcdlaaGreatDoorMBG
set_option maxHeartbeats 16000000
namespace Go.Proofs.YtcagoomibpcdlaaGreatDoor
open _root_.Go.Proofs.Tryz
open Go.Sx Go.Vm
def zDH(m:Img): D:=.agg [.slice (m.pool.map enCn),.slice (m.code.map enIn)]
def zIU(fin:Int)(vs:List Nn)(num:Int)(out:List (List UInt8))(steps:Int): D:=.agg [i64 fin,.slice (vs.map nnD),i64 num,.slice (out.map str),i64 steps]
abbrev zWH: D:=zIU 0 [] 0 [] 0
attribute [local irreducible] zAN Program.underlying Ylds zA9 alex zB3 zBf awp zAi zCC zCB zAU zBl zAz zDt zBq zBj zBB zBr zB2 zB8 zD7 zBi zBd zBg
theorem zXk(m:Img)(words fuel e:Int)(he:e≠0)(hV:zAi prog 18 [zDH m] (i64 e)): zAi prog 10 [zDH m,i64 words,i64 fuel] (.tup [zWH,i64 e]):=by
 refine zED func10 rfl ntmps10 results10 rfl ?_
 intro wb St0
 unfold zDH at *
 repeat' first|apply en_n|apply zAH|apply zAA|apply zAD|apply w0|(refine zBu ?_)|(refine zCJ ?_)|(refine RV_c rfl rfl zCE rfl rfl ?_ ?_)|(refine RV_d rfl ?_ ?_)|exact zDC|(with_reducible exact rfl)|(refine zBY (cs:=[i64 0,.slice [],i64 0,.slice [],i64 0]) zMk zD8 zCf rfl)|refine zAh rfl rfl rfl zCE rfl rfl rfl rfl ?_|exact zGI rfl rfl|(refine zAb zDv hV (zAY rfl zAM))|(apply aBox (hd:=rfl) (hro:=rfl);exact rfl;exact rfl)|(apply zDI (hd:=rfl) (hro:=rfl);(with_reducible exact zD8))|apply ay (hd:=rfl)|exact zAF rfl|exact zAB rfl|exact zA4 rfl zCo rfl rfl rfl|(refine w0' ?_)|refine zAI rfl ?_|apply zAQ|apply en_r
 all_goals rfl
theorem zUn(m:Img)(words fuel:Int)(hw:words<16\/1048576<words)(hV:zAi prog 18 [zDH m] (i64 0)): zAi prog 10 [zDH m,i64 words,i64 fuel] (.tup [zWH,i64 200]):=by
 have hN:=zXo words hw
 refine zED func10 rfl ntmps10 results10 rfl ?_
 intro wb St0
 unfold zDH at *
 repeat' first|apply en_n|apply zAH|apply zAA|apply zAD|apply w0|(refine zBu ?_)|(refine zCJ ?_)|(refine RV_c rfl rfl zCE rfl rfl ?_ ?_)|(refine RV_d rfl ?_ ?_)|exact zDC|(with_reducible exact rfl)|(refine zBY (cs:=[i64 0,.slice [],i64 0,.slice [],i64 0]) zMk zD8 zCf rfl)|refine zAh rfl rfl rfl zCE rfl rfl rfl rfl ?_|exact zGI rfl rfl|exact zFI rfl rfl|(refine zAb zDv hV (zAY rfl zAM))|(refine zAb zHM hN (zAY rfl zAM))|(apply aBox (hd:=rfl) (hro:=rfl);exact rfl;exact rfl)|(apply zDI (hd:=rfl) (hro:=rfl);(with_reducible exact zD8))|apply ay (hd:=rfl)|exact zAF rfl|exact zAB rfl|exact zAg rfl rfl|exact zA4 rfl zCo rfl rfl rfl|(refine w0' ?_)|refine zAI rfl ?_|refine zAJ rfl ?_|apply zAS|apply zAQ|apply en_r
 all_goals rfl
theorem zUo(m:Img)(words:Nat)(fuel:Int)(hw:16<=words/\words<=1048576)(hf:fuel<0)(hV:zAi prog 18 [zDH m] (i64 0)): zAi prog 10 [zDH m,i64 (words:Int),i64 fuel] (.tup [zWH,i64 210]):=by
 have hN:=zVX words hw
 refine zED func10 rfl ntmps10 results10 rfl ?_
 intro wb St0
 unfold zDH at *
 repeat' first|apply en_n|apply zAH|apply zAA|apply zAD|apply w0|(refine zBu ?_)|(refine zCJ ?_)|(refine RV_c rfl rfl zCE rfl rfl ?_ ?_)|(refine RV_d rfl ?_ ?_)|exact zDC|(with_reducible exact rfl)|(refine zBY (cs:=[i64 0,.slice [],i64 0,.slice [],i64 0]) zMk zD8 zCf rfl)|refine zAh rfl rfl rfl zCE rfl rfl rfl rfl ?_|exact zJm rfl|exact zVS rfl|exact zVR rfl|exact zC9 rfl rfl|exact zFI rfl rfl|(apply k0u (hd:=rfl);exact rfl;exact rfl)|(refine zAb zDv hV (zAY rfl zAM))|(refine zOg [] zHM hN (SArgs_all rfl) rfl rfl (by decide) rfl rfl rfl rfl rfl rfl ?_)|(apply aBox (hd:=rfl) (hro:=rfl);exact rfl;exact rfl)|(apply zDI (hd:=rfl) (hro:=rfl);(with_reducible exact zD8))|apply ay (hd:=rfl)|exact zAF rfl|exact zAB rfl|exact zAa rfl rfl|exact zFZ rfl|exact zA4 rfl zCo rfl rfl rfl|(refine w0' ?_)|refine zAI rfl ?_|refine zAJ rfl ?_|apply zAS|apply zAQ|apply en_r
 all_goals rfl
end Go.Proofs.YtcagoomibpcdlaaGreatDoor
namespace Go.Proofs.YtcagoomibpcdlaaGreatDoor
open _root_.Go.Proofs.Tryz
open Go.ChangeShapes Go.WideShapes Go.ChangeAt Go.RowKit Go.Deep Go.Sx Go.Vm
theorem zLO: prog.underlying 22=some (.slice 43):=by kernel_rfl
theorem zSu: prog.underlying 43=some (.struct #[⟨"IsText",4,0,false, "", "",0⟩,⟨"Num",2,1,false, "", "",8⟩,⟨"Text",9,2,false, "", "",16⟩]):=by kernel_rfl
theorem zUO: prog.cellsOf 43=3:=by kernel_rfl
theorem zQ9: oneCellFields prog #[⟨"IsText",4,0,false, "", "",0⟩,⟨"Num",2,1,false, "", "",8⟩,⟨"Text",9,2,false, "", "",16⟩]=true:=by kernel_rfl
theorem zVs: prog.underlying 23=some (.slice 46):=by kernel_rfl
theorem zX0: prog.underlying 46=some (.struct #[⟨"Op",44,0,false, "", "",0⟩,⟨"A",3,1,false, "", "",8⟩,⟨"B",3,2,false, "", "",16⟩]):=by kernel_rfl
theorem zZZ: prog.underlying 44=some (.int .i64):=by kernel_rfl
theorem zVt: prog.underlying 4=some .bool:=by kernel_rfl
theorem zY2: prog.cellsOf 46=3:=by kernel_rfl
theorem zWe: oneCellFields prog #[⟨"Op",44,0,false, "", "",0⟩,⟨"A",3,1,false, "", "",8⟩,⟨"B",3,2,false, "", "",16⟩]=true:=by kernel_rfl
theorem zUv: prog.underlying 25=some (.struct #[⟨"Pool",22,0,false, "", "",0⟩,⟨"Code",23,1,false, "", "",24⟩]):=by kernel_rfl
theorem zRg: prog.cellsOf 22=1:=by kernel_rfl
theorem zXK: prog.cellsOf 23=1:=by kernel_rfl
theorem zY3: prog.cellsOf 25=2:=by kernel_rfl
set_option maxRecDepth 100000 in
theorem zMF{H:Type}{enc:TypeId×Value->H}{W:World}{fuel:Nat}{cs:List Value}{x:DataW H×List MemPlace}(h:DataW.trod enc prog W 0 (fun _=>true) true fuel 22 cs=some x):
  ∃(v:Value) (E:List Cn),cs=[v]/\v.oneCell'=true/\RepD (big W) W v (.slice (E.map enCn)):=by
 rcases zJH zLO zSu zQ9 zUO h with h0|⟨a,len,cap,hcs,hl,hm,hi⟩
 ·exact⟨_,[],h0,rfl,zQe⟩
 ·obtain⟨E,hL,hq⟩:=zGD (Q:=fun i (s:Cn)=>W.cell? (a.add (i*3+0))=some (.bool s.isText)/\W.cell? (a.add (i*3+1))=some (.int .i64 s.num)/\W.cell? (a.add (i*3+2))=some (.string ⟨s.text.toArray⟩)) len (fun i hil=>by
   obtain⟨n,hf⟩:=hi i hil
   obtain⟨u0,y0,c0,t0⟩:=hf 0 _ rfl
   obtain⟨u1,y1,c1,t1⟩:=hf 1 _ rfl
   obtain⟨u2,y2,c2,t2⟩:=hf 2 _ rfl
   obtain⟨b,e0,_⟩:=DataW.trod_bool zVt t0
   obtain⟨z,e1,_,_⟩:=DataW.trod_int zX1 t1
   obtain⟨s,e2,_,_⟩:=DataW.trod_string zXz t2
   injection e0 with e0;injection e1 with e1;injection e2 with e2
   subst e0;subst e1;subst e2
   exact⟨⟨b,z,s.data.toList⟩,c0,c1,c2⟩)
  refine⟨_,E,hcs,rfl,zLa (sz:=3) (by rw[qAC,hL]) hl hm (zGQ fun _=>rfl) (by decide) fun i d hd o c hc=>?_⟩
  rw[qAL]at hd
  cases hn:E[i]? with
  |none=>rw[hn]at hd;cases hd
  |some s =>
   rw[hn]at hd;injection hd with hd;subst hd
   obtain⟨h1,h2,h3⟩:=hq i s hn
   match o,hc with
   |0,hc=>injection hc with hc;subst hc;exact⟨_,h1,rfl,.val _⟩
   |1,hc=>injection hc with hc;subst hc;exact⟨_,h2,rfl,.val _⟩
   |2,hc=>injection hc with hc;subst hc;exact⟨_,h3,rfl,.val _⟩
   |o+3,hc=>exact absurd hc (by simp[enCn,D.flat])
set_option maxRecDepth 100000 in
theorem zWw{H:Type}{enc:TypeId×Value->H}{W:World}{fuel:Nat}{cs:List Value}{x:DataW H×List MemPlace}(h:DataW.trod enc prog W 0 (fun _=>true) true fuel 23 cs=some x):
  ∃(v:Value) (E:List Ins),cs=[v]/\v.oneCell'=true/\RepD (big W) W v (.slice (E.map enIn)):=by
 rcases zJH zVs zX0 zWe zY2 h with h0|⟨a,len,cap,hcs,hl,hm,hi⟩
 ·exact⟨_,[],h0,rfl,zQe⟩
 ·obtain⟨E,hL,hq⟩:=zGD (Q:=fun i (s:Ins)=>W.cell? (a.add (i*3+0))=some (.int .i64 s.op)/\W.cell? (a.add (i*3+1))=some (.int .i64 s.a)/\W.cell? (a.add (i*3+2))=some (.int .i64 s.b)) len (fun i hil=>by
   obtain⟨n,hf⟩:=hi i hil
   obtain⟨u0,y0,c0,t0⟩:=hf 0 _ rfl
   obtain⟨u1,y1,c1,t1⟩:=hf 1 _ rfl
   obtain⟨u2,y2,c2,t2⟩:=hf 2 _ rfl
   obtain⟨z0,e0,_,_⟩:=DataW.trod_int zZZ t0
   obtain⟨z1,e1,_,_⟩:=DataW.trod_int zUu t1
   obtain⟨z2,e2,_,_⟩:=DataW.trod_int zUu t2
   injection e0 with e0;injection e1 with e1;injection e2 with e2
   subst e0;subst e1;subst e2
   exact⟨⟨z0,z1,z2⟩,c0,c1,c2⟩)
  refine⟨_,E,hcs,rfl,zLa (sz:=3) (by rw[qAC,hL]) hl hm (zGQ fun _=>rfl) (by decide) fun i d hd o c hc=>?_⟩
  rw[qAL]at hd
  cases hn:E[i]? with
  |none=>rw[hn]at hd;cases hd
  |some s =>
   rw[hn]at hd;injection hd with hd;subst hd
   obtain⟨h1,h2,h3⟩:=hq i s hn
   match o,hc with
   |0,hc=>injection hc with hc;subst hc;exact⟨_,h1,rfl,.val _⟩
   |1,hc=>injection hc with hc;subst hc;exact⟨_,h2,rfl,.val _⟩
   |2,hc=>injection hc with hc;subst hc;exact⟨_,h3,rfl,.val _⟩
   |o+3,hc=>exact absurd hc (by simp[enIn,D.flat])
set_option maxRecDepth 100000 in
theorem zPe{H:Type}{enc:TypeId×Value->H}{W:World}{r:Reach}{b0:Nat}{v:Value}{d:DataW H}{p:List MemPlace}(hv:Value.okWide prog W r b0 22 v)(h:DataW.Trod enc prog W 0 (fun _=>true) true 22 v d p):
  ∃E:List Cn,RepD (big W) W v (.slice (E.map enCn)):=by
 obtain⟨a,len,cap,rfl⟩:=okWide_slice zLO hv
 obtain⟨fuel,hf⟩:=h
 obtain⟨v',E,hc,_,hr⟩:=zMF hf
 simp[Value.cells]at hc
 subst hc
 exact⟨E,hr⟩
set_option maxRecDepth 100000 in
theorem zWx{H:Type}{enc:TypeId×Value->H}{W:World}{r:Reach}{b0:Nat}{v:Value}{d:DataW H}{p:List MemPlace}(hv:Value.okWide prog W r b0 25 v)(h:DataW.Trod enc prog W 0 (fun _=>true) true 25 v d p):
  ∃m,RepD (big W) W v (zDH m):=by
 obtain⟨cs,rfl,hsz⟩:=okWide_struct zUv hv
 obtain⟨fuel,hf⟩:=h
 obtain⟨y0,y1,n,hx,hl,h0,h1⟩:=trod_struct2 zUv hf
 rw[zY3]at hsz
 obtain⟨l⟩:=cs
 match l,hsz with
 |[u0,u1],_ =>
  obtain⟨v0,E0,e0,o0,r0⟩:=zMF h0
  obtain⟨v1,E1,e1,o1,r1⟩:=zWw h1
  have e0':u0=v0:=by rw[zRg]at e0;simpa[Value.cells]using e0
  have e1':u1=v1:=by rw[zXK]at e1;simpa[Value.cells]using e1
  subst e0';subst e1'
  refine⟨⟨E0,E1⟩,?_⟩
  refine RepD.agg (St:=big W) (w:=W) [u0,u1] [.slice (E0.map enCn),.slice (E1.map enIn)] rfl (fun u hu=>?_) (fun j u d hu hd=>?_)
  ·rcases qBG.1 hu with rfl|hu
   ·exact o0
   ·rw[qAO.1 hu];exact o1
  ·match j,hu,hd with
   |0,hu,hd=>injection hu with hu;injection hd with hd;subst hu;subst hd;exact r0
   |1,hu,hd=>injection hu with hu;injection hd with hd;subst hu;subst hd;exact r1
   |j+2,hu,_=>simp at hu
end Go.Proofs.YtcagoomibpcdlaaGreatDoor
namespace Go.Proofs.YtcagoomibpcdlaaGreatDoor
open _root_.Go.Proofs.Tryz
open Go.ChangeShapes Go.WideShapes Go.ChangeAt Go.RowKit Go.Deep Go.Sx
theorem Tryz.own: ownKnob prog.godebug=none:=by kernel_rfl
theorem Tryz.laidOut: laidOutB prog=true:=by kernel_rfl
section
variable {H:Type}{enc:TypeId×Value->H}
theorem zLH{a:Assume}{C:Checked}{os:Os}{f:FuncId}{fn:Func}{s:ChangeSpec}{conds:List PathCond}{apart fresh handsOn again:Bool}{X:World->Array Value->Prop}
  (hX:∀(w w':World) (args:Array Value),w.heap=w'.heap->X w args->X w' args)
  (own:ownKnob C.prog.godebug=none) (started:os.Started) (noInit:C.prog.inits.idxOf? f=none) (hfn:C.prog.funcs[f]?=some fn)
  (witness:∃(w:World) (tape:Tape) (i:Input),w.os=os/\(w.forCall tape i).Shaped C.prog/\i.vars=[]/\Input.okWide C.prog (w.forCall tape i) .any w.heap.size f i/\
   ((s.pre enc C.prog fn conds apart (w.forCall tape i).memory i.args/\X (w.forCall tape i).memory i.args)/\sizedMet enc C.prog fn (OpenSpec.ofChange s) apart (w.forCall tape i).memory i.args)/\a.holds C.prog (lone (Frame.enter C.prog f i.args .normal) [] (w.forCall tape i)))
  (contract:∀(W:World) (base:Nat) (args:Array Value) (ds gs:List (DataW H)) (before:List MemPlace),
   (∀(j:Nat) t v,fn.params[j]?=some t->args[j]?=some v->Value.okWide C.prog W .any base t v)->
   DataW.Whole enc C.prog fn.params.toList s.vars apart W args.toList ds gs before->X W args->W.ShapedOpen C.prog->
   Calls C.prog f args W fun e W'=>∃v,e=.returned v/\s.post enc C.prog fn apart fresh handsOn again W args v W') :
  ReturnsInHanded a C os f .any (fun w args=>(s.pre enc C.prog fn conds apart w args/\X w args)/\sizedMet enc C.prog fn (OpenSpec.ofChange s) apart w args) (s.post enc C.prog fn apart fresh handsOn again):=by
 refine returnsInHanded_of_calls own started noInit witness ?_
 intro w tape i _ hsh _ hok hpre _
 obtain⟨_,_,_,fn',hfn',_,_,_,_,hval⟩:=hok
 have e:fn'=fn:=qA8 (hfn'.symm.trans hfn)
 subst e
 obtain⟨⟨⟨ds,gs,before,hw,_⟩,hx⟩,_⟩:=hpre
 have hw':=DataW.Whole.of_heap (w':=w.forCall tape i) (by rfl) hw
 refine(contract (w.forCall tape i) w.heap.size i.args ds gs before hval hw' (hX _ _ _ (by rfl) hx) hsh).mono fun e W' ⟨v,he,hp⟩=>?_
 subst he
 exact ChangeSpec.post_blind hp
end
theorem zI4{P:Program}{W:World}{n:String}{g:Nat}{cs:Array Value}(hg:P.globalNamed n=some g)(hv:W.var? P n=some cs): ∃e t,W.heap[g]?=some (.cells cs e t):=by
 simp only[World.var?,hg,Option.bind_some]at hv
 split at hv
 ·rename_i h;injection hv with hv;subst hv;exact⟨_,_,h⟩
 ·cases hv
def zFz: List (String×DataW Unit):=Rows.vmFuelsRow.laid
theorem zRW{W:World}(hsh:W.ShapedOpen prog)(hL:laidMetH prog zFz W): Glob (big W) W:=by
 rw[MakeChecks.laidMetH_plain _ _ _ (by kernel_rfl)]at hL
 have h2:=laidMet.tail (laidMet.tail hL)
 have e2:(Rows.laid_internal_strconv_uint64pow10:DataW Unit)=Lib.tabData .u64 Lib.pow10Tab:=by kernel_rfl
 rw[e2]at h2
 have ht:=Lib.tabIs_of_head (g:=4) (t:=245) (e:=57) (n:=20) (by kernel_rfl) (by kernel_rfl) (by kernel_rfl) (by kernel_rfl) (by kernel_rfl) (by kernel_rfl) h2
 have h4:=laidMet.tail (laidMet.tail h2)
 have e4:(Rows.laid_triglyph_op_numbers:DataW Unit)=Lib.tabData .i64 opNums:=by kernel_rfl
 rw[e4]at h4
 have hn:=Lib.tabIs_of_head (g:=0) (t:=223) (e:=3) (n:=21) (by kernel_rfl) (by kernel_rfl) (by kernel_rfl) (by kernel_rfl) (by kernel_rfl) (by kernel_rfl) h4
 have h6:=laidMet.tail (laidMet.tail h4)
 have e6:(Rows.laid_strings_asciiSpace:DataW Unit)=Lib.tabData .u8 Lib.asciiSpaceTab:=by kernel_rfl
 rw[e6]at h6
 have hs:=Lib.tabIs_of_head (g:=7) (t:=240) (e:=5) (n:=256) (by kernel_rfl) (by kernel_rfl) (by kernel_rfl) (by kernel_rfl) (by kernel_rfl) (by kernel_rfl) h6
 obtain⟨cs8,hh8,_,_⟩:=hsh.1 9 #[.pointer none] 264 (of_decide_eq_true (by kernel_rfl)) (by kernel_rfl)
 have hsz:9<W.heap.size:=(qAn.1 hh8).1
 obtain⟨m,hm⟩:=cell_of_shapedOpen_int (P:=prog) (g:=1) (t:=3) (zero:=#[.int .i64 0]) hsh (of_decide_eq_true (by kernel_rfl)) (by kernel_rfl) rfl (by kernel_rfl) (by kernel_rfl) uint
 obtain⟨cs0,hh,hc0,_⟩:=hsh.1 1 #[.int .i64 0] 3 (of_decide_eq_true (by kernel_rfl)) (by kernel_rfl)
 have hc:cs0 = #[.int .i64 m]:=by
  obtain⟨l⟩:=cs0
  match l,hc0 with
  |[c],_ =>
   simp[World.cell?,hh]at hm
   rw[hm]
 subst hc
 obtain⟨e9,t9,h9⟩:=zI4 (g:=0) (by kernel_rfl) hn
 obtain⟨csN,hhN,_,_⟩:=hsh.1 0 (Array.replicate 21 (.int .i64 0)) 223 (of_decide_eq_true (by kernel_rfl)) (by kernel_rfl)
 have hN:=h9.symm.trans hhN
 injection hN with hN;injection hN with hN1 hN2 hN3
 subst hN1;subst hN2;subst hN3
 exact⟨⟨fun k hk o=>qAY hk hsz,_,h9⟩,⟨m,_,_,hh⟩,zI4 (by kernel_rfl) ht,zI4 (by kernel_rfl) hs⟩
end Go.Proofs.YtcagoomibpcdlaaGreatDoor
