/- Parts of the proof. -/
import Derived.Test.YtlhhcnknclnlaaaGreatDoorRows
import Derived.ProofKit
import Derived.LaidMore
import Derived.OpenShut
import Derived.Maps.Keyed
import Derived.Deep.Strs
import Derived.Stop.Joined
import Derived.WalkKit
import Derived.ChangeOld
import Derived.Below
import Derived.Test.YtlhhcnknclnlaaaGreatDoorS13
set_option linter.all false
set_option maxRecDepth 100000
set_option maxHeartbeats 16000000
open Go.Proofs.Tryz renaming prog->aa,underlying3->af,underlying22->al,underlying29->an,underlying70->ao,underlying71->aq,checked->ar,f4->aw,func4->bj
open List renaming head_eq_of_cons_eq->ab,mem_cons_of_mem->ag,not_mem_nil->ax,mem_cons->az,range->bb
open Go.DataW renaming trod_int->ae,insert->a_,trod->ba,map->bk
open Go.WideElems renaming elemAt->ai,rg->aE
open Go.Proofs.Tryz
namespace Go.Proofs.YtlhhcnknclnlaaaGreatDoor.Top
open Go Go.ChangeShapes Go.WideShapes Go.ChangeAt Go.RowKit Go.Proofs.YtlhhcnknclnlaaaGreatDoor.iH Go.Proofs.YtlhhcnknclnlaaaGreatDoor.Oct Go.Proofs.YtlhhcnknclnlaaaGreatDoor.HX Go.Proofs.ah.aN
theorem KE{n:Int}(h:(Lit.int .u32 n).wf=true):0<=n∧n<4294967296:=by
 simp[Lit.wf,IntKind.min,IntKind.max,IntKind.bits,IntKind.signed]at h;omega
variable {H:Type}{W w:World}{base:Nat}{held:Bool}{v:Value}
theorem Wn{enc:TypeId×Value->H}{n:Nat}{y:DataW H×List MemPlace}(h:ba enc aa w base (fun _=>true) held n 25 [v]=some y):
 ∃A cp es,v=.slice A es.length cp∧Kd.C pR w A es.length es∧es.length<=cp∧∀e∈es,(0<=e.f0∧e.f0<4294967296)∧(0<=e.f1∧e.f1<4294967296)∧0<=e.f2∧e.f2<4294967296:=by
 rcases DataW.trod_slice underlying25 h with⟨hcs,_⟩|⟨a,len,cap,elems,rest,m,_,hcs,_,_,hl,hm,hlen,hel,_⟩
 .obtain rfl:v=_:=ab hcs;exact⟨none,0,[],rfl,⟨rfl,by simp,fun h=>absurd h (Nat.lt_irrefl 0)⟩,Nat.le_refl _,fun e he=>by cases he⟩
 .obtain rfl:v=_:=ab hcs;have c46:aa.cellsOf 46=3:=by kernel_rfl
  have K_:aa.cellsOf 22=1:=by kernel_rfl
  have hx:∀i,i<len->∃e:jB,(w.cell? (a.add (i*3))=some (.int .u32 e.f0)∧w.cell? ((a.add (i*3)).add 1)=some (.int .u32 e.f1)∧w.cell? ((a.add (i*3)).add 2)=some (.int .u32 e.f2))∧(0<=e.f0∧e.f0<4294967296)∧(0<=e.f1∧e.f1<4294967296)∧0<=e.f2∧e.f2<4294967296:=fun i hi=>by
   have h1:=hel i hi;rw[c46,List.getElem?_eq_getElem (by omega)]at h1;obtain⟨cs,hc,ht⟩:=Option.bind_eq_some_iff.1 h1;obtain⟨y0,y1,y2,n',_,hcl,h0,h1,h2⟩:=Go.Deep.trod_struct3 underlying46 ht;obtain⟨_,hc0,hc1⟩:=World.cells?_some hc;rw[c46]at hcl
   match cs,hcl with
   | [x0,x1,x2],_=>
    obtain⟨n0,e0,_,w0⟩:=ae al h0;obtain⟨n1,e1,_,w1⟩:=ae al h1;obtain⟨n2,e2,_,w2⟩:=ae al h2;simp[K_]at e0 e1 e2;subst e0 e1 e2;have z0:=hc1 0 (by decide);have z1:=hc1 1 (by decide);have z2:=hc1 2 (by decide);rw[show(a.add (i*3)).add 0=a.add (i*3) by unfold Addr.add;split<;>simp_all]at z0;exact⟨⟨n0,n1,n2⟩,⟨z0,z1,z2⟩,KE w0,KE w1,KE w2⟩
  let F:Nat->jB:=fun i=>if h:i<len then(hx i h).choose else⟨0,0,0⟩
  have hF:∀i,i<len->(w.cell? (a.add (i*3))=some (.int .u32 (F i).f0)∧w.cell? ((a.add (i*3)).add 1)=some (.int .u32 (F i).f1)∧w.cell? ((a.add (i*3)).add 2)=some (.int .u32 (F i).f2))∧(0<=(F i).f0∧(F i).f0<4294967296)∧(0<=(F i).f1∧(F i).f1<4294967296)∧0<=(F i).f2∧(F i).f2<4294967296:=fun i hi=>by
   have:=(hx i hi).choose_spec;have e:F i=(hx i hi).choose:=dif_pos hi;rw[e];exact this
  refine⟨some a,cap,(bb len).map F,by simp,⟨rfl,by unfold maxLen at hm;simp;omega,fun hn=>⟨a,rfl,fun j p hj=>⟨[.int .u32 p.f0,.int .u32 p.f1,.int .u32 p.f2],rfl,GN w p,fun i u hi=>?_⟩⟩⟩,by simpa using hl,fun e he=>?_⟩
  .have hj':j<len:=by have:=(List.getElem?_eq_some_iff.1 hj).1;simpa using this
   have hp:F j=p:=by
    rw[List.getElem?_map,List.getElem?_range hj']at hj;simpa using hj
   obtain⟨⟨q0,q1,q2⟩,_⟩:=hF j hj';rw[hp]at q0 q1 q2;have ad:∀k,(a.add (j*3)).add k=a.add (j*3+k):=fun k=>Addr.add_add a _ _
   rw[ad]at q1 q2;rw[show pR.sz=3 from rfl]
   match i,hi with
   |0,hi=>cases hi;exact q0
   |1,hi=>cases hi;exact q1
   |2,hi=>cases hi;exact q2
  .obtain⟨j,hj,rfl⟩:=List.mem_map.1 he;exact(hF j (List.mem_range.1 hj)).2
theorem aaJ{enc:TypeId×Value->H}{b0:Nat}{r:Reach}{d:DataW H}{p:List MemPlace}(hv:Value.okWide aa w r b0 29 v)(h:DataW.Trod enc aa w base (fun _=>true) held 29 v d p):
 ∃pk jr n A cp es sh mo bu,v=.agg #[.int .i64 pk,.int .u32 jr,.int .i64 n,.slice A es.length cp,.int .i64 sh,.int .i64 mo,.int .i64 bu]∧(0<=jr∧jr<4294967296)∧Kd.C pR w A es.length es∧es.length<=cp∧∀e∈es,(0<=e.f0∧e.f0<4294967296)∧(0<=e.f1∧e.f1<4294967296)∧0<=e.f2∧e.f2<4294967296:=by
 obtain⟨cs,rfl,hsz⟩:=okWide_struct an hv;have c29:aa.cellsOf 29=7:=by kernel_rfl
 have c24:aa.cellsOf 24=2:=by kernel_rfl
 have c27:aa.cellsOf 27=2:=by kernel_rfl
 have c25:aa.cellsOf 25=1:=by kernel_rfl
 have K_:aa.cellsOf 22=1:=by kernel_rfl
 have c3:aa.cellsOf 3=1:=by kernel_rfl
 rw[c29]at hsz;obtain⟨l⟩:=cs
 match l,hsz with
 | [x0,x1,x2,x3,x4,x5,x6],_=>
  obtain⟨fuel,hf⟩:=h;obtain⟨xs,n,_,_,_,hlen,hfs⟩:=DataW.trod_struct an (show ba enc aa w base (fun _=>true) held fuel 29 [x0,x1,x2,x3,x4,x5,x6]=some _ from hf)
  match xs,hlen with
  | [y0,y1,y2,y3,y4],_=>
   have f0:=hfs 0 _ rfl;have f1:=hfs 1 _ rfl;have f2:=hfs 2 _ rfl;have f3:=hfs 3 _ rfl;have f4:=hfs 4 _ rfl;simp[c24,c27,c3]at f0 f1 f2 f3 f4;obtain⟨a0,a1,n0,_,_,g0,g1⟩:=trod_struct2 underlying24 f0;obtain⟨b0,b1,n1,_,_,k0,k1⟩:=trod_struct2 underlying27 f1;simp[K_,c3,c25]at g0 g1 k0 k1;obtain⟨z0,e0,_,w0⟩:=ae af g0;obtain⟨z1,e1,_,w1⟩:=ae al g1;obtain⟨z2,e2,_,w2⟩:=ae af k0;obtain⟨z4,e4,_,w4⟩:=ae af f2;obtain⟨z5,e5,_,w5⟩:=ae af f3;obtain⟨z6,e6,_,w6⟩:=ae af f4;obtain⟨A,cp,es,rfl,h1,h2,h3⟩:=Wn k1;obtain rfl:=ab e0;obtain rfl:=ab e1;obtain rfl:=ab e2;obtain rfl:=ab e4;obtain rfl:=ab e5;obtain rfl:=ab e6;exact⟨z0,z1,z2,A,cp,es,z4,z5,z6,rfl,KE w1,h1,h2,h3⟩
theorem vG{m:Nat}{e0:Value}{y:DataW (List UInt8)×List MemPlace}{b:UInt8}{r:List UInt8}{f0:FuncId}(hR:ai (funcToken aa) aa W 0 (fun _=>true) true m 70 e0=some y)(hy:y.1=.held (b::r))(hone:((bb aa.funcs.size).filter fun f=>(aa.funcs[f]?).any (·.name.toUTF8.data.toList==b::r))=[f0]):e0=.func (.func f0) #[] #[]:=by
 unfold ai at hR
 split at hR
 .rename_i hf
  obtain⟨y1,q⟩:=y;cases hy;have hc:e0.cells.toList=[e0]:=by
   cases e0<;>simp[Value.formed,ao]at hf<;>rfl
  rw[hc]at hR;exact _root_.Go.func_of_trod ao hone hR
 .cases hR
theorem aaK:aa.globalNamed "cartage/script.calls" =some 0:=by kernel_rfl
theorem aaL:(aa.globals[0]?).map (·.type)=some 71:=by kernel_rfl
theorem Dw{l:List (String×DataW Unit)}(h:laidMetH aa l W)(hm:("cartage/script.calls",(Rows.laid_cartage_script_calls:DataW Unit))∈l):∃mt,kQ W mt∧0<W.heap.size∧mt<W.heap.size:=by
 obtain⟨g,t,cs,fuel,p,hg,ht,hv,hd⟩:=h.funcs hm;obtain rfl:=Option.some.inj (aaK.symm.trans hg);obtain rfl:=Option.some.inj (aaL.symm.trans ht);rcases WideElems.open_map aq hd with⟨_,hx⟩|⟨bm,es,clock,m,rfl,hcs,hb,_,F,hx⟩
 .simp[DataW.funcsOut]at hx
 simp only[Prod.mk.injEq]at hx;have hcell:W.cell? ⟨0,0,none⟩=some (.map (some bm)):=by
  have:=World.var?_cell hg hv 0;rw[Array.eq_one_of_toList hcs]at this;simpa using this
 refine⟨bm,⟨hcell,_,hb,fun W' hb' k f hk=>?_⟩,Nat.lt_of_le_of_lt (Nat.zero_le _) (World.block_lt_of_cell? W _ hcell),(Array.getElem?_eq_some_iff.1 hb).1⟩;have key:(∀zd,(bk ((es.toList.map (aE aa 3 (ai (funcToken aa) aa W 0 (fun _=>true) true m 70))).foldr a_ [])).atKey (.int .i64 k) zd=zd)∨(∃e0 y,(Instr.lookup 71 (.map (some bm)) (.int .i64 k) false).run aa W'=.ok e0 W'∧ai (funcToken aa) aa W 0 (fun _=>true) true m 70 e0=some y∧∀zd,(bk ((es.toList.map (aE aa 3 (ai (funcToken aa) aa W 0 (fun _=>true) true m 70))).foldr a_ [])).atKey (.int .i64 k) zd=y.1):=by
  have hw:(Lit.int .i64 k).wf=true:=by
   simp only[az,ax,or_false,Prod.mk.injEq]at hk;rcases hk with⟨rfl,_⟩|⟨rfl,_⟩|⟨rfl,_⟩<;>decide
  rcases Maps.fit_look (w:=W') false (Maps.int_keyed af) aq (z:=.nilFunc) (by kernel_rfl) hb' F (Maps.keyOf_int_mk af hw)with⟨_,_,hat⟩|⟨e0,y,_,_,hrun,hR,hat,_⟩
  .exact .inl hat
  .exact .inr ⟨e0.val,y,by simpa using hrun,hR,hat⟩
 rw[<-hx.1]at key;simp only[az,ax,or_false,Prod.mk.injEq]at hk;rcases hk with⟨rfl,rfl⟩|⟨rfl,rfl⟩|⟨rfl,rfl⟩
 .rcases key with hn|⟨e0,y,hrun,hR,hat⟩
  .exact absurd (hn .nil) (by intro e;cases e)
  .rw[vG (f0:=162) hR (hat .nil).symm (by kernel_rfl)]at hrun;exact hrun
 .rcases key with hn|⟨e0,y,hrun,hR,hat⟩
  .exact absurd (hn .nil) (by intro e;cases e)
  .rw[vG (f0:=164) hR (hat .nil).symm (by kernel_rfl)]at hrun;exact hrun
 .rcases key with hn|⟨e0,y,hrun,hR,hat⟩
  .exact absurd (hn .nil) (by intro e;cases e)
  .rw[vG (f0:=166) hR (hat .nil).symm (by kernel_rfl)]at hrun;exact hrun
end Go.Proofs.YtlhhcnknclnlaaaGreatDoor.Top
namespace Go.Proofs.YtlhhcnknclnlaaaGreatDoor.topLeast
open Go Go.ChangeShapes Go.WideShapes Go.ChangeAt Go.RowKit Go.Proofs.YtlhhcnknclnlaaaGreatDoor.Top
theorem own:ownKnob aa.godebug=none:=by kernel_rfl
theorem laidOut:laidOutB aa=true:=by kernel_rfl
theorem RZ(os:Os)(args:Array Value):laidMetH aa Rows.topLeastRow.laid ((World.doorLaid aa 87 os).forCall (fun _ _=>0) ⟨#[],args,[]⟩).memory:=
 laidMetH_of_parts3 (fuel:=8) (laidMet_of_run' 8 (by kernel_rfl) (by kernel_rfl)) (by kernel_rfl) (by kernel_rfl)
theorem lifted(os:Os)(started:os.Started)(H:Type)(enc:TypeId×Value->H):
 ReturnsInHanded {} ar os 4 .any (fun w args=>(Rows.topLeastSpec.pre enc aa aw [] false w args∧laidMetH aa Rows.topLeastRow.laid w)∧sizedMet enc aa aw (OpenSpec.ofChange Rows.topLeastSpec) false w args)
  (Rows.topLeastSpec.post enc aa aw false true false false):=by
 refine returnsInHanded_of_change_and (C:=ar) (X:=fun w _=>laidMetH aa Rows.topLeastRow.laid w) (fun _ _ _ hh h=>h.of_heap hh) own started (by kernel_rfl) bj
  (ChangeSpec.witness_shaped (enc:=enc) (C:=ar) (os:=os) (X:=fun w _=>laidMetH aa Rows.topLeastRow.laid w) false (World.doorLaid aa 87 os) #[.agg #[.int .i64 0,.int .u32 0,.int .i64 0,.slice none 0 0,.int .i64 0,.int .i64 0,.int .i64 0]] 8 rfl (World.shaped_of_RefB (by kernel_rfl) (by kernel_rfl)) (by kernel_rfl) (by kernel_rfl) (by kernel_rfl) (RZ os _)) ?_
 intro W base args ds gs before hval0 hW _ _ hL _;have hval:∀(j:Nat) t v,aw.params[j]? =some t->args[j]? =some v->Value.okWide aa W .any base t v:=hval0;have hW':=hW;obtain⟨p,q,UN,hV,rfl,hfz,hnd⟩:=hW;have hA:DataW.TrodAll enc aa W 0 (fun _=>true) true aw.params.toList args.toList ds p:=UN;rw[params4]at hA hval;obtain⟨v0,d0,rfl,rfl,h0⟩:=trodAll_one hA;obtain⟨rfl,rfl⟩:=trodVars_none hV;have lt0:∀x∈p,x.block<W.heap.size:=by obtain⟨m,hm⟩:=h0;exact DataW.trod_lt m _ _ _ hm
 obtain⟨pk,jr,n,A,cp,es,sh,mo,bu,rfl,agA,hC,hcp,hb⟩:=aaJ (hval 0 29 v0 rfl rfl) h0;have k0:=h0;obtain⟨mt,hg,hz,hmt⟩:=Dw hL (ag _ (ag _ (ag _ (ag _ (ag _ (List.mem_singleton.2 rfl))))));clear UN hval0;refine(aie hg hz hmt hC hcp hb).mono fun e W' ⟨he,bel⟩=>?_
 subst he;exact⟨_,rfl,_,_,_,[],_,[],hW',trodAll_mk1 (shut_bool underlying4 _),(trodAll_cons_mk (Below.trod laidOut (by kernel_rfl) (of_decide_eq_true (by kernel_rfl)) k0 bel lt0) trodAll_mk0),rfl,bel.frame _,fun h=>by cases h⟩
theorem Nc:Rows.TopLeastSaid:=
 OpenClaim.holds_of_wide 4 aw rfl rfl rfl rfl rfl rfl rfl ⟨rfl,rfl,rfl,rfl,rfl⟩ rfl rfl rfl rfl rfl (by kernel_rfl) bj (by kernel_rfl)
  (of_decide_eq_true (by kernel_rfl)) (by unfold Func.isWrapper;first|(rw[if_pos (by decide+kernel)];kernel_rfl)|(rw[if_neg (by decide+kernel)];exact⟨rfl,rfl⟩))
  (fun os started H enc _=>lifted os started H enc)
end Go.Proofs.YtlhhcnknclnlaaaGreatDoor.topLeast
