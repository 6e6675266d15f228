/- Parts of the proof. -/
import Derived.OrdersHeld
import Derived.Deep.RegionHeld3
import Derived.Laws.BitsLemmas
import Derived.RowKit
import Derived.Laws.CopyOwn
import Derived.Lib.LazyBuf
import Derived.Carry
import Derived.Laws.StructEq
import Derived.Laws.AppendOwn
import Derived.OrdersIn
import Derived.RangeFuncCalls
import Derived.TacticsIn
import Derived.Test.YtlhhcnknclnlaaaGreatDoorS00
set_option linter.all false
set_option maxRecDepth 100000
set_option maxHeartbeats 16000000
open Bool renaming and_eq_true->aa,or_eq_true->cD,true_or->gx,or_true->gz
open Go renaming World->ab,Value->al,Oper->an,mem_ready->a_,Program->bk,Act->cz,IntKind->cJ,TypeId->cX,run_eql_slice_nil->dd,Calls->dj,YieldsIf->eJ,Operand->fc,Exit->fk,Addr->fl,Yields->ie
open Go.Builtin renaming zeroCells->ae,append_->ar,firstCells->eS,max2->fg,min2->fh,max_->gj,min_->gm
open Go.Proofs.Tryz renaming prog->af,underlying40->cx,underlying251->dt,underlying41->ef,underlying79->eh,ntmps194->fY,ntmps47->gA,func194->gC,ntmps30->gO,func47->gS,func30->ia
open List renaming filterMap_cons->ag,getD_eq_getElem?_getD->ao,length_cons->aq,all_eq_true->ax,range->az,getElem?_eq_getElem->aE,length_nil->ba,mem_range->bb,eq_nil_of_length_eq_zero->ca,length_set->cm,mem_cons->cq,getElem?_cons_succ->cG,getElem?_cons_zero->cH,replicate->cN,mem_of_mem_erase->cW,take_append_of_le_length->da,mem_erase_of_ne->de,length_zipIdx->dp,length_append->dq,getElem?_eq_some_iff->dv,getElem?_append_left->dC,append_assoc->dT,take_of_length_le->et,erase_of_not_mem->ez,countP_eq_length->eI,length_erase_le->eN,getElem?_take->eR,filterMap_nil->eW,mem_cons_self->fb,getElem?_map->fe,map_toArray->fm,foldlM_cons->fp,filter_cons->ft,countP_cons->fw,foldlM_nil->fN,take_left->fR,perm_cons->fW,map_cons->fX,map_nil->gi
open Nat renaming le_refl->ai,zero_add->bt,le_trans->cM,mul_le_mul_right->c_,lt_of_lt_of_le->dr,xor_lt_two_pow->du,lt_or_ge->ek,min_eq_left->ey,add_mul->eK,testBit_or->eM,le_succ_of_le->fi,mod_eq_of_lt->fv,zero_le->fz,mul_ne_zero->fL,add_zero->gg
open Go.RowKit.Below renaming heap_setCell->aw,refl->cd
open Option.some renaming inj->bj,injEq->ik
open Go.Value renaming ownBlock->bz
open List.Perm renaming swap->cy
open Go.Oper renaming wp->cA,wp_mono->gR,uponIn->ic,upon->il
open Array renaming setIfInBounds_comm->cC,replicate->cF,getElem?_eq_none->cI,getElem?_eq_some_iff->di,getElem?_eq_getElem->dy,any_eq_true'->eQ,ext'->ij
open Ne renaming symm->cE
open Go.Result renaming andThen_ok->cU
open Go.IntKind renaming wrap_i64->cY,i64->fy,u32->ib
open Go.Op renaming eqFields->df,equalIn->fS
open Go.Calls renaming quiet_of_same->dg
open Go.Code renaming region->dE
open Go.Sem renaming run_bind->eo,run_pure->gh
open Go.Fence renaming wide->ew
open Go.Proofs.Tryz
namespace Go.Proofs.ah.bA
section
variable {P:bk} {ops:Array an} {Q:fk->cz->ab->Prop} {md:Region.Mode} {S:ab->Prop} {ds:List Nat}
def Region.jS(md:Region.Mode)(ops:Array an)(i:Nat):Nat->Nat->Bool
 |0,_=>false
 |fuel+1,d=>match ops[d]? with
  |some o=>o.after.any fun e=>Region.binds md e&&(e.on==i||Region.jS md ops i fuel e.on)
  |none=>false
def Region.tK(md:Region.Mode)(ops:Array an)(listed:Array Bool):Bool:=
 (az ops.size).all fun j=> !listed.getD j false||match ops[j]? with
  |some o=>o.after.all fun e=> !Region.binds md e||listed.getD e.on false
  |none=>true
def Region.lastB(md:Region.Mode)(ops:Array an)(listed:Array Bool)(ds:List Nat)(i:Nat):Bool:=
 ds.all fun d=>listed.getD d true||Region.jS md ops i ops.size d
def iG(md:Region.Mode)(ops:Array an)(listed:Array Bool):Prop:=
 ∀j oj,ops[j]? =some oj->listed.getD j false=true->∀e∈oj.after,Region.binds md e=true->listed.getD e.on false=true
variable {listed:Array Bool}
theorem Region.Cb(h:Region.tK md ops listed=true):iG md ops listed:=by
 intro j oj hj hl e he hb;have hlt:j<ops.size:=(di.1 hj).1;have h1:=ax.1 h j (bb.2 hlt);simp only[hl,hj,Bool.not_true,Bool.false_or]at h1;have h2:=Array.all_eq_true_iff_forall_mem.1 h1 e he;simpa[hb]using h2
variable {fuel i:Nat}
theorem iG.set(h:iG md ops listed)(hi:i∈Region.ready md ops listed):iG md ops (listed.setIfInBounds i true):=by
 obtain⟨_,oi,hoi,hall⟩:=a_.1 hi;intro j oj hj hl e he hb;by_cases hij:i=j
 .subst hij;have:oj=oi:=bj (hj.symm.trans hoi);subst this;exact getD_set_true (hall e he hb)
 .rw[getD_set_ne false hij]at hl;exact getD_set_true (h j oj hj hl e he hb)
theorem Region.tL{listed:Array Bool}{i:Nat}(hc:iG md ops listed):∀(fuel d:Nat),Region.jS md ops i fuel d=true->listed.getD d false=true->listed.getD i false=true
 |0,_,h,_=>by simp[Region.jS]at h
 |fuel+1,d,h,hl=>by
  unfold Region.jS at h;cases ho:ops[d]? with
  |none=>rw[ho]at h;simp at h
  |some o=>
   rw[ho]at h;obtain⟨e,he,h1⟩:=eQ.1 h;simp only[aa,cD,beq_iff_eq]at h1;have hle:=hc d o ho hl e he h1.1;rcases h1.2 with h2|h2
   .rw[<-h2];exact hle
   .exact Region.tL hc fuel e.on h2 hle
theorem Region.wG{d:Nat}(hc:iG md ops listed)(hr:Region.jS md ops i fuel d=true)(hun:listed.getD i true=false):d∉Region.ready md ops listed:=by
 intro hd;obtain⟨_,o,ho,hall⟩:=a_.1 hd;have hi:listed.getD i false=true:=by
  cases fuel with
  |zero=>simp[Region.jS]at hr
  |succ n=>
   unfold Region.jS at hr;rw[ho]at hr;obtain⟨e,he,h1⟩:=eQ.1 hr;simp only[aa,cD,beq_iff_eq]at h1;have hle:=hall e he h1.1;rcases h1.2 with h2|h2
   .rw[<-h2];exact hle
   .exact Region.tL hc n e.on h2 hle
 rcases ek i listed.size with h'|h'
 .simp[h']at hun hi;rw[hun]at hi;cases hi
 .simp[cI h']at hun
def aK(P:bk)(md:Region.Mode)(ops:Array an)(Q:fk->cz->ab->Prop)(S:ab->Prop)(ds:List Nat):Nat->Array Bool->cz->ab->Prop
 |0,listed,a,w=>Region.ready md ops listed=[]∧Q .normal a w
 |fuel+1,listed,a,w=>
  (Region.ready md ops listed=[]->Q .normal a w)∧
  ∀i∈Region.ready md ops listed,wpOp P ops Q i (fun a' w'=>(i∉ds->S w->S w')∧aK P md ops Q S ds fuel (listed.setIfInBounds i true) a' w') a w
theorem nR:∀(fuel:Nat) (listed:Array Bool) (a:cz) (w:ab),aK P md ops Q S ds fuel listed a w->wpAny P md ops Q fuel listed a w
 |0,_,_,_,h=>h
 |fuel+1,_,_,_,h=>⟨h.1,fun i hi=>wpOp_mono (fun a' w' h'=>nR fuel _ a' w' h'.2) (h.2 i hi)⟩
variable {oi:an}{v:al}
theorem jH(hi:ops[i]? =some oi)(hsel:∀(j:Nat) (o:an) cs b,ops[j]? =some o->o.op≠.select cs b)(hQ:∀c a w,Q (.panic c) (a.put oi.dst v) w->Q (.panic c) a w)(n:Nat):
 ∀(fuel:Nat) (listed:Array Bool) (a:cz) (w:ab),
  (∀j oj,ops[j]? =some oj->j≠i->listed.getD j true=false->(∀e∈oj.after,Region.binds md e=true->e.on≠i)->oi.apart ops oj=true)->
  iG md ops listed->(∀d∈ds,listed.getD d true=false->Region.jS md ops i n d=true)->
  i∈Region.ready md ops listed->eJ P ops S oi v a->S w->
  aK P md ops Q S ds fuel (listed.setIfInBounds i true) (a.put oi.dst v) w->aK P md ops Q S ds (fuel+1) listed a w:=by
 intro fuel
 induction fuel with
 |zero=>
  intro listed a w _ _ _ hr hy hS H;refine⟨fun h=>(by rw[h]at hr;cases hr),fun j hj=>?_⟩;by_cases hji:j=i
  .subst hji;exact hy.wpOp hi hS ⟨fun _ h=>h,H⟩
  .have:=ready_mono hj hji;rw[H.1]at this;cases this
 |succ fuel ih=>
  intro listed a w hfree hc hd hr hy hS H;refine⟨fun h=>(by rw[h]at hr;cases hr),fun j hj=>?_⟩;by_cases hji:j=i
  .subst hji;exact hy.wpOp hi hS ⟨fun _ h=>h,H⟩
  .have h1:=H.2 j (ready_mono hj hji);obtain⟨hjun,oj,hoj,hall⟩:=a_.1 hj;have KJ:=(a_.1 hr).1;have hnot:∀e∈oj.after,Region.binds md e=true->e.on≠i:=fun e he hb heq=>by
    have h1:=hall e he hb;rw[heq]at h1;rcases ek i listed.size with h'|h'
    .simp[h']at KJ h1;rw[KJ]at h1;cases h1
    .simp[cI h']at h1
   have hjd:j∉ds:=fun hm=>Region.wG hc (hd j hm hjun) KJ hj
   have h2:=wpOp_putIf hoj (hfree j oj hoj hji hjun hnot) (fun cs b=>hsel i oi cs b hi) (fun cs b=>hsel j oj cs b hoj) hQ hy h1;have hfree':∀k ok,ops[k]? =some ok->k≠i->(listed.setIfInBounds j true).getD k true=false->
    (∀e∈ok.after,Region.binds md e=true->e.on≠i)->oi.apart ops ok=true:=fun k ok hk hki hun hno=>by
    refine hfree k ok hk hki ?_ hno;by_cases hjk:j=k
    .subst hjk;exact hjun
    .rw[getD_set_ne true hjk]at hun;exact hun
   have hd':∀d∈ds,(listed.setIfInBounds j true).getD d true=false->Region.jS md ops i n d=true:=fun d hm hun=>by
    refine hd d hm ?_;by_cases hjk:j=d
    .subst hjk;exact hjun
    .rw[getD_set_ne true hjk]at hun;exact hun
   refine wpOp_mono (fun a' w' h3=>⟨h3.2.1,ih (listed.setIfInBounds j true) a' w' hfree' (hc.set hj) hd' (ready_mono hr (cE hji)) h3.1 (h3.2.1 hjd hS) ?_⟩) h2;rw[cC _ _ hji];exact h3.2.2
theorem g_(hi:ops[i]? =some oi)(hsel:∀(j:Nat) (o:an) cs b,ops[j]? =some o->o.op≠.select cs b)(hQ:∀c a w,Q (.panic c) (a.put oi.dst v) w->Q (.panic c) a w):
 ∀(fuel:Nat) (listed:Array Bool) (a:cz) (w:ab),
  (∀j oj,ops[j]? =some oj->j≠i->listed.getD j true=false->(∀e∈oj.after,Region.binds md e=true->e.on≠i)->oi.apart ops oj=true)->
  i∈Region.ready md ops listed->ie P ops oi v a->
  aK P md ops Q S ds fuel (listed.setIfInBounds i true) (a.put oi.dst v) w->aK P md ops Q S ds (fuel+1) listed a w:=by
 intro fuel
 induction fuel with
 |zero=>
  intro listed a w _ hr hy H;refine⟨fun h=>(by rw[h]at hr;cases hr),fun j hj=>?_⟩;by_cases hji:j=i
  .subst hji;exact(hy.yieldsIf (S:=fun _=>True)).wpOp hi trivial ⟨fun _ h=>h,H⟩
  .have:=ready_mono hj hji;rw[H.1]at this;cases this
 |succ fuel ih=>
  intro listed a w hfree hr hy H;refine⟨fun h=>(by rw[h]at hr;cases hr),fun j hj=>?_⟩;by_cases hji:j=i
  .subst hji;exact(hy.yieldsIf (S:=fun _=>True)).wpOp hi trivial ⟨fun _ h=>h,H⟩
  .have h1:=H.2 j (ready_mono hj hji);obtain⟨hjun,oj,hoj,hall⟩:=a_.1 hj;have KJ:=(a_.1 hr).1;have hnot:∀e∈oj.after,Region.binds md e=true->e.on≠i:=fun e he hb heq=>by
    have h1:=hall e he hb;rw[heq]at h1;rcases ek i listed.size with h'|h'
    .simp[h']at KJ h1;rw[KJ]at h1;cases h1
    .simp[cI h']at h1
   have h2:=wpOp_put hoj (hfree j oj hoj hji hjun hnot) (fun cs b=>hsel i oi cs b hi) (fun cs b=>hsel j oj cs b hoj) hQ hy h1;have hfree':∀k ok,ops[k]? =some ok->k≠i->(listed.setIfInBounds j true).getD k true=false->
    (∀e∈ok.after,Region.binds md e=true->e.on≠i)->oi.apart ops ok=true:=fun k ok hk hki hun hno=>by
    refine hfree k ok hk hki ?_ hno;by_cases hjk:j=k
    .subst hjk;exact hjun
    .rw[getD_set_ne true hjk]at hun;exact hun
   refine wpOp_mono (fun a' w' h3=>⟨h3.2.1,ih (listed.setIfInBounds j true) a' w' hfree' (ready_mono hr (cE hji)) h3.1 ?_⟩) h2;rw[cC _ _ hji];exact h3.2.2
variable {a:cz}{w:ab}
theorem xP(hi:ops[i]? =some oi)(hs:Region.noSelect ops=true)(hf:Region.free md ops listed i=true)(hr:(Region.ready md ops listed).contains i=true)(hc:Region.tK md ops listed=true)(hl:Region.lastB md ops listed ds i=true)(hQ:∀c a w,Q (.panic c) (a.put oi.dst v) w->Q (.panic c) a w)(hy:eJ P ops S oi v a)(hS:S w)(h:aK P md ops Q S ds fuel (listed.setIfInBounds i true) (a.put oi.dst v) w):aK P md ops Q S ds (fuel+1) listed a w:=
 jH hi (Region.noSelect_spec hs) hQ ops.size fuel listed a w (Region.free_spec hi hf) (Region.Cb hc)
  (fun d hm hun=>by have:=ax.1 hl d hm;rw[hun]at this;simpa using this) (by simpa using hr) hy hS h
theorem zG{rs:List Nat}(hr:Region.ready md ops listed=rs)(hne:rs≠[])(h:∀i∈rs,wpOp P ops Q i (fun a' w'=>(i∉ds->S w->S w')∧aK P md ops Q S ds fuel (listed.setIfInBounds i true) a' w') a w):aK P md ops Q S ds (fuel+1) listed a w:=
 ⟨fun h0=>absurd (hr▸h0) hne,hr▸h⟩
theorem xQ(hr:Region.ready md ops listed=[])(h:Q .normal a w):
 ∀fuel,aK P md ops Q S ds fuel listed a w
 |0=>⟨hr,h⟩
 |_+1=>⟨fun _=>h,by rw[hr];simp⟩
theorem fI{id:Nat}(hm:P.follows .mixedOrders=true)(h:aK P .any ops Q S ds ops.size (cF ops.size false) a {w with drawn:=w.drawn+1}):(dE id ops true).wp P Q a w:=
 wp_region_any hm (nR _ _ _ _ h)
end
section
variable {P:bk} {ops:Array an} {Q:fk->cz->ab->Prop} {md:Region.Mode} {S:ab->Prop} {ds:List Nat}
def eP(P:bk)(md:Region.Mode)(ops:Array an)(Q:fk->cz->ab->Prop)(S:ab->Prop)(ds:List Nat)(fuel:Nat)(listed:Array Bool)(a:cz)(w:ab)(rs:List Nat):Prop:=
 ∀i∈rs,wpOp P ops Q i (fun a' w'=>(i∉ds->S w->S w')∧aK P md ops Q S ds fuel (listed.setIfInBounds i true) a' w') a w
variable {a:cz}{fuel i n:Nat}{listed:Array Bool}{w:ab}
theorem eP.nil:eP P md ops Q S ds fuel listed a w []:=fun _ h=>by cases h
variable {o oi:an}{rs:List Nat}
theorem eP.cons(ho:ops[i]? =some o)(hd:i∉ds)(h:∀K':cz->ab->Prop,Shut (∀a w,S w->(S w->aK P md ops Q S ds fuel (listed.setIfInBounds i true) a w)->K' a w)->if Region.wanted o (yielded ops a.tmps)=true then cA P o a w K' Q else K' (a.put o.dst undef) w)(hs:eP P md ops Q S ds fuel listed a w rs):eP P md ops Q S ds fuel listed a w (i::rs):=fun j hj=>by
 rcases cq.1 hj with rfl|hj
 .exact wpOp_step ho (fun K' hK=>h K' (fun a w hS hW=>hK a w ⟨fun _ _=>hS,hW hS⟩))
 .exact hs j hj
theorem eP.KL(ho:ops[i]? =some o)(hd:i∈ds)(h:∀K':cz->ab->Prop,Shut (∀a w,aK P md ops Q S ds fuel (listed.setIfInBounds i true) a w->K' a w)->if Region.wanted o (yielded ops a.tmps)=true then cA P o a w K' Q else K' (a.put o.dst undef) w)(hs:eP P md ops Q S ds fuel listed a w rs):eP P md ops Q S ds fuel listed a w (i::rs):=fun j hj=>by
 rcases cq.1 hj with rfl|hj
 .exact wpOp_step ho (fun K' hK=>h K' (fun a w hW=>hK a w ⟨fun hn=>absurd hd hn,hW⟩))
 .exact hs j hj
theorem lI(hr:Region.ready md ops listed=rs)(hne:rs≠[])(h:eP P md ops Q S ds fuel listed a w rs):aK P md ops Q S ds (fuel+1) listed a w:=zG hr hne h
theorem XU{id:Nat}(l:Array Bool)(hm:P.follows .mixedOrders=true)(hn:ops.size=n)(hl:cF n false=l)(hS:S w.drew)(h:S w.drew->aK P .any ops Q S ds n l a w.drew):(dE id ops true).wp P Q a w:=by
 subst hn;subst hl;exact fI hm (h hS)
def takeB(md:Region.Mode)(ops:Array an)(ds:List Nat)(l l':Array Bool)(i:Nat):Bool:=
 Region.noSelect ops&&Region.free md ops l i&&(Region.ready md ops l).contains i&&Region.tK md ops l&&Region.lastB md ops l ds i&&(l.setIfInBounds i true==l')
theorem vH{i:Nat}{N:Option Tmp}{oi:an}{v:al}{fuel:Nat}{l:Array Bool}{a:cz}{w:ab}(l':Array Bool)(hi:ops[i]? =some oi)(hN:oi.dst=N)(hc:takeB md ops ds l l' i=true)(hQ:∀c a w,Q (.panic c) (a.put oi.dst v) w->Q (.panic c) a w)(hy:eJ P ops S oi v a)(hS:S w){a':cz}(ha:a.put N v=a')(h:aK P md ops Q S ds fuel l' a' w):aK P md ops Q S ds (fuel+1) l a w:=by
 subst ha;subst hN;simp only[takeB,aa,beq_iff_eq]at hc;obtain⟨⟨⟨⟨⟨h1,h2⟩,h3⟩,h4⟩,h5⟩,h6⟩:=hc;subst h6;exact xP hi h1 h2 h3 h4 h5 hQ hy hS h
def rX(md:Region.Mode)(ops:Array an)(l l':Array Bool)(i:Nat):Bool:=
 Region.noSelect ops&&Region.free md ops l i&&(Region.ready md ops l).contains i&&(l.setIfInBounds i true==l')
theorem mU{i:Nat}{N:Option Tmp}{oi:an}{v:al}{fuel:Nat}{l:Array Bool}{a:cz}{w:ab}(l':Array Bool)(hi:ops[i]? =some oi)(hN:oi.dst=N)(hc:rX md ops l l' i=true)(hQ:∀c a w,Q (.panic c) (a.put oi.dst v) w->Q (.panic c) a w)(hy:ie P ops oi v a){a':cz}(ha:a.put N v=a')(h:aK P md ops Q S ds fuel l' a' w):aK P md ops Q S ds (fuel+1) l a w:=by
 subst ha;subst hN;simp only[rX,aa,beq_iff_eq]at hc;obtain⟨⟨⟨h1,h2⟩,h3⟩,h6⟩:=hc;subst h6;exact g_ hi (Region.noSelect_spec h1) hQ fuel l a w (Region.free_spec hi h2) (by simpa using h3) hy h
def uV(md:Region.Mode)(ops:Array an)(l l':Array Bool)(i:Nat):Bool:=(Region.ready md ops l==[i])&&(l.setIfInBounds i true==l')
variable {N:Option Tmp}
theorem NZ{l:Array Bool}(l':Array Bool)(hi:ops[i]? =some oi)(hN:oi.dst=N)(hc:uV md ops l l' i=true)(hd:i∉ds)(h:∀K:cz->ab->Prop,Shut (∀a' w',S w'->(S w'->aK P md ops Q S ds fuel l' a' w')->K a' w')->if Region.wanted oi (yielded ops a.tmps)=true then cA P oi a w K Q else K (a.put N undef) w):
 aK P md ops Q S ds (fuel+1) l a w:=by
 subst hN;simp only[uV,aa,beq_iff_eq]at hc;obtain⟨h1,h2⟩:=hc;subst h2;exact lI h1 (by simp) (eP.cons hi hd (fun K hK=>h K hK) eP.nil)
theorem N7{l:Array Bool}(l':Array Bool)(hi:ops[i]? =some oi)(hN:oi.dst=N)(hc:uV md ops l l' i=true)(hd:i∈ds)(h:∀K:cz->ab->Prop,Shut (∀a' w',aK P md ops Q S ds fuel l' a' w'->K a' w')->if Region.wanted oi (yielded ops a.tmps)=true then cA P oi a w K Q else K (a.put N undef) w):
 aK P md ops Q S ds (fuel+1) l a w:=by
 subst hN;simp only[uV,aa,beq_iff_eq]at hc;obtain⟨h1,h2⟩:=hc;subst h2;exact lI h1 (by simp) (eP.KL hi hd (fun K hK=>h K hK) eP.nil)
theorem Wu{l:Array Bool}(hr:(Region.ready md ops l==[])=true)(h:Q .normal a w):aK P md ops Q S ds n l a w:=xQ (by simpa using hr) h n
theorem aaW{j:Nat}{Ni Nj:Option Tmp}{oj:an}{l:Array Bool}(li lj:Array Bool)(hi:ops[i]? =some oi)(hj:ops[j]? =some oj)(hNi:oi.dst=Ni)(hNj:oj.dst=Nj)(hc:(Region.ready md ops l==[i,j]&&l.setIfInBounds i true==li&&l.setIfInBounds j true==lj)=true)(hdi:i∉ds)(hdj:j∉ds)(h1:∀K:cz->ab->Prop,Shut (∀a' w',S w'->(S w'->aK P md ops Q S ds fuel li a' w')->K a' w')->if Region.wanted oi (yielded ops a.tmps)=true then cA P oi a w K Q else K (a.put Ni undef) w)(h2:∀K:cz->ab->Prop,Shut (∀a' w',S w'->(S w'->aK P md ops Q S ds fuel lj a' w')->K a' w')->if Region.wanted oj (yielded ops a.tmps)=true then cA P oj a w K Q else K (a.put Nj undef) w):
 aK P md ops Q S ds (fuel+1) l a w:=by
 subst hNi;subst hNj;simp only[aa,beq_iff_eq]at hc;obtain⟨⟨h3,h4⟩,h5⟩:=hc;subst h4;subst h5;exact lI h3 (by simp) (eP.cons hi hdi (fun K hK=>h1 K hK) (eP.cons hj hdj (fun K hK=>h2 K hK) eP.nil))
def rY:cz->List (Tmp×al)->cz
 |a,[]=>a
 |a,(n,v)::r=>rY (a.put (some n) v) r
theorem aaX{σ:Type}{l:Array Bool}(fuel':Nat)(l':Array Bool)(ns:σ->List (Tmp×al))(F:σ->ab->Prop)(hcont:∀s w',F s w'->aK P md ops Q S ds fuel' l' (rY a (ns s)) w')(h:(∀s w',F s w'->aK P md ops Q S ds fuel' l' (rY a (ns s)) w')->aK P md ops Q S ds fuel l a w):aK P md ops Q S ds fuel l a w:=h hcont
theorem og{fuel:Nat}{l:Array Bool}{a a':cz}{w:ab}(ha:a=a')(h:aK P md ops Q S ds fuel l a' w):aK P md ops Q S ds fuel l a w:=by
 subst ha;exact h
variable {fn:Func}
theorem SG{f:FuncId}(hf:P.funcs[f]? =some fn)(hname:(fn.name== "runtime.NumGoroutine")=false)(hb:fn.body.isSome=true)(args:Array al)(w:ab):(callFunc f args).run P w=.ok (.enter f args) w:=by
 have h1:fn.name≠ "runtime.NumGoroutine" :=by simpa using hname
 obtain⟨c,hc⟩:=Option.isSome_iff_exists.1 hb;simp[callFunc,hf,h1,hc]
theorem gJ{rest:List an}(N:Option Tmp)(hd:oi.dst=N)(hg:oi.guard=none){f:FuncId}{ah2:Array fc}{ts:Array cX}(hf:P.funcs[f]? =some fn)(hname:(fn.name== "runtime.NumGoroutine")=false)(hb:fn.body.isSome=true)(args:Array al)(hop:oi.op=.call {callee:=.value (.func f),args:=ah2,argTypes:=ts})(hargs:ah2.map a.eval=args)(h:dj P f args w fun e w'=>∃v,e=.returned v∧wpList P ops Q rest (a.put N v) w'):wpList P ops Q (oi::rest) a w:=by
 refine wpList_plain hg fun K hK=>?_
 have he:=SG hf hname hb args w;have hrun:(execOp a.eval oi).run P w=.ok (.enter f args) w:=by
  unfold execOp;simp[hop,resolve,Deferred.ofValue,invoke,Act.eval,hargs,he]
 unfold cA;rw[hrun,Oper.upon_enter];refine h.mono fun e w'' hh=>?_
 obtain⟨v,rfl,hk⟩:=hh;subst hd;exact hK _ _ hk
theorem N8{w1:ab}{K:cz->ab->Prop}(hw:Region.wanted oi (yielded ops a.tmps)=true)(hN:oi.dst=none)(hrun:(execOp a.eval oi).run P w=.ok .skip w1)(h:K a w1):if Region.wanted oi (yielded ops a.tmps)=true then cA P oi a w K Q else K (a.put none undef) w:=by
 rw[if_pos hw];unfold cA;rw[hrun];show K (a.put oi.dst undef) w1;rw[hN];exact h
theorem gK(n:Int):fy.wrap n=Go.RowKit.wrap64 n:=by unfold Go.RowKit.wrap64;exact cY n
end
end Go.Proofs.ah.bA
namespace Go.Proofs.ah.aN
open Go.RowKit
namespace Kd
variable {α:Type}
def tag(f:Nat->Nat)(d:Kd α):Kd (α×Nat) where
 sz:=d.sz
 E:=d.E
 K:=fun w x cs=>d.K w x.1 cs
 M:=fun w base ok x cs=>d.M w base (fun k=>ok k∧f k=x.2) x.1 cs
 pW:=fun h=>d.pW h
 nZ:=fun h=>d.nZ h
 kR:=fun hb h=>d.kR hb h
 jy:=fun h=>d.jy h
 fA:=fun hok h=>d.fA (fun k hk=>⟨hok k hk.1,hk.2⟩) h
 gQ:=fun h=>d.fA (fun _ hk=>⟨⟨hk.1.1,hk.2⟩,hk.1.2⟩) (d.gQ h)
 je:=fun hm h=>d.je (fun k hk=>hm k hk.1) h
 kU:=fun hb h=>d.kU hb h
def S(d:Kd α)(e:Nat)(w:ab)(base:Nat)(ok:Nat->Prop)(v:al)(xs:List α):Prop:=∃f,(tag f d).R e w base ok v xs.zipIdx
section
variable {α β:Type} {d:Kd α} {d':Kd β} {e e':Nat} {w w1 W:ab} {base b:Nat} {ok ok' XO oku:Nat->Prop} {u v:al} {xs:List α} {ys:List β}
theorem XV{xs:List α}{j:Nat}{p:α}(h:xs[j]? =some p):xs.zipIdx[j]? =some (p,j):=by rw[List.getElem?_zipIdx,h,bt];rfl
theorem S_R(h:S d e w base ok v xs):d.R e w base ok v xs:=by
 obtain⟨f,h0,inner,ho,hr⟩:=h;rw[dp]at ho;exact⟨h0,inner,ho,by have:=hr.1;rw[dp]at this;exact this,fun j p hj=>d.fA (fun _ hk=>hk.1) (hr.2 j (p,j) (XV hj))⟩
theorem Cc(hE:d.E=[])(h:d.R e w base ok v xs):d.R e w base (fun k=>some k=v.ownBlock) v xs:=by
 obtain⟨h0,inner,ho,hr⟩:=h;refine⟨fun k hk=>hk.symm,inner,ho,hr.nN (fun p c hp=>d.fA (fun k hk=>?_) (d.gQ hp))⟩;obtain⟨_,_,_,q,hq,_⟩:=hk;rw[hE]at hq;cases hq
theorem aaY(d:Kd α)(e:Nat)(w:ab)(base:Nat)(ok:Nat->Prop):S d e w base ok (.slice none 0 0) []:=⟨fun _=>0,sW _ _ _ _ _⟩
theorem XW(h:S d e w base ok v xs)(hok:∀k,ok k->ok' k):S d e w base ok' v xs:=by
 obtain⟨f,h⟩:=h;exact⟨f,iA h hok⟩
theorem Jh(h:S d e w base ok v xs):∀k,v.ownBlock=some k->∃cells,w.heap[k]? =some (.cells cells e (0,0)):=jR (S_R h)
theorem N9(h:S d e W base ok u xs)(hbase:∀k,v.ownBlock=some k->W.heap.size<=k)(hb:Below W.heap.size W w1):S d e w1 base (fun k=>ok k∧some k≠v.ownBlock) u xs:=by
 obtain⟨f,h⟩:=h;exact⟨f,DR h hbase hb⟩
theorem aaZ{f f':Nat->Nat}{zs:List (α×Nat)}(h:(tag f d).R e w base ok v zs)(hf:∀k,ok k->k<w.heap.size->f' k=f k):(tag f' d).R e w base ok v zs:=by
 obtain⟨h0,inner,ho,hr⟩:=lT h;exact⟨fun k hk=>(h0 k hk).1,inner,ho,hr.1,fun j p hj=>d.fA (fun k hk=>⟨⟨hk.1.1.1,hk.1.2⟩,(hf k hk.1.1.1 hk.1.1.2.2.1).trans hk.2⟩) (hr.2 j p hj)⟩
end
section
variable {α β:Type} {d:Kd α} {d':Kd β} {e e' g:Nat} {w w1 W:ab} {base b:Nat} {ok ok' XO oku:Nat->Prop} {u v:al} {xs:List α} {ys:List β}
theorem SH(h:S d e w base ok v xs):∃A c,v=.slice A xs.length c:=dV (S_R h)
theorem N_(xs:List α)(p:α):(xs++[p]).zipIdx=xs.zipIdx++[(p,xs.length)]:=by rw[List.zipIdx_append];simp
end
section
open Classical in
theorem aa0 {α:Type} {d:Kd α} {e base:Nat} {XO:Nat->Prop} {w:ab} {v:al} {xs:List α} (h:S d e w base XO v xs) (m:Nat) (lX:Nat->Prop) (hap:∀k,lX k->¬XO k):∃f,(∀k,lX k->f k=m)∧(tag f d).R e w base XO v xs.zipIdx:=by
 obtain⟨f,h⟩:=h;exact⟨fun k=>if lX k then m else f k,fun k hk=>if_pos hk,aaZ h (fun k hk _=>if_neg (fun h2=>hap k h2 hk))⟩
variable {P:bk} {ops:Array an} {rest:List an} {o:an} {a:cz} {Q:fk->cz->ab->Prop} {Kc:cz->ab->Prop} {α:Type}
theorem Oa(d:Kd α){w0 W:ab}(base:Nat)(hgd:o.guard=none)(s x:fc)(t e:cX)(z:al)(bytes:Nat)(ho:o.op=.call {callee:=.builtin .append,args:= #[s,x],argTypes:= #[t,t]})(ht:P.underlying t=some (.slice e))(hinfo:(P.info? e).map (fun i=>(i.zero,i.size,i.bytes))=some (some z,d.sz,bytes))(hz:z.cells.size=d.sz)(hs0:0<d.sz)(hb0:0<bytes)(v:al)(xs:List α)(p:α)(cs:List al)(ok lX:Nat->Prop)(hs:a.eval s=v)(hx:a.eval x=.slice (some ⟨W.heap.size,0,none⟩) 1 1)(hp:d.M W base lX p cs)(uQ:∀k,lX k->ok k∧some k≠v.ownBlock)(hfresh:∀k,W.heap.size<=k->ok k)(HO:S d e W base (fun k=>ok k∧¬lX k) v xs)(HB:Below base w0 W)(hbase:base<=W.heap.size)(hl:(xs.length+1)*bytes<=140737488355328)(h:∀v1 w1,S d e w1 base ok v1 (xs++[p])->Below base w0 w1->W.grownBy w1 v.ownBlock->(v1.ownBlock=v.ownBlock∨∃b,v1.ownBlock=some b∧W.heap.size<=b)->wpList P ops Q rest (a.put o.dst v1) w1):
 wpList P ops Q (o::rest) a (W.alloc (.cells cs.toArray e)):=by
 obtain⟨f,hf,hR⟩:=aa0 HO xs.length lX (fun _ hk h2=>h2.2 hk);refine tq (tag f d) base hgd s x t e z bytes ho ht hinfo hz hs0 hb0 v xs.zipIdx (p,xs.length) cs ok lX hs hx (d.fA (fun k hk=>⟨hk,hf k hk⟩) hp) uQ hfresh (iA hR (fun _ hk=>hk.1)) HB hbase (by rw[dp];exact hl) ?_;intro v1 w1 hr;rw[<-N_]at hr;exact h v1 w1 ⟨f,hr⟩
end
end Kd
namespace Kd
theorem mg{α:Type}{R:α->List al->Prop}{size:Nat}{ps:List α}{cs:List al}(h:gZ R size ps cs)(hs0:0<size)(hR:∀p c,R p c->∀u∈c,u.oneCell'=true):∀u∈cs,u.oneCell'=true:=by
 intro u hu;obtain⟨q,hq,rfl⟩:=List.mem_iff_getElem.1 hu;have SB:q/size<ps.length:=by
  rw[Nat.div_lt_iff_lt_mul hs0,<-h.1];exact hq
 refine hR _ _ (h.2 (q/size) _ (aE SB)) _ ?_;rw[List.mem_iff_getElem?];refine⟨q%size,?_⟩;rw[eR,if_pos (Nat.mod_lt _ hs0),List.getElem?_drop,Nat.mul_comm,Nat.div_add_mod,aE hq]
end Kd
section
variable {P:bk}
theorem oh(w:ab)(base:Nat)(t ti ty e:cX)(i:TypeInfo)(z:al)(size bytes:Nat)(ht:P.underlying t=some (.slice e)){k:cJ}(hti:P.underlying ti=some (.int k))(hi:P.info? e=some i)(hz:i.zero=some z)(hsize:i.size=size)(hby:i.bytes=bytes)(hzs:z.cells.size=size)(hsz:0<size)(hb0:0<bytes)(v:al)(n:Nat)(xs:List al)(hown:w.ownsRow base e size v n xs)(kx:cJ)(m:Nat)(h1:∀u∈(ae z.cells m).toList,u.oneCell'=true)(hbytes:(n+m)*bytes<=140737488355328)(hbase:base<=w.heap.size):
 ∃v' w',(ar #[t,ti] ty #[v,.int kx m]).run P w=.ok v' w'∧w'.ownsRow base e size v' (n+m) (xs++(ae z.cells m).toList)∧w.grownBy w' v.ownBlock∧
  (v'.ownBlock=v.ownBlock∨v'.ownBlock=some w.heap.size):=by
 subst hsize;subst hby
 have hle:n+m<=140737488355328:=cM (Nat.le_mul_of_pos_right _ hb0) hbytes;have h63:n+m<=maxLen:=by simp only[maxLen];omega
 have hw:fy.wrap (m:Int)=m:=by rw[cY];omega
 have hw0:fy.wrap 0=0:=by rw[cY];rfl
 have hneg:¬((m:Int)<0):=by omega
 have hmb:m*i.bytes<=140737488355328:=cM (c_ _ (Nat.le_add_left m n)) hbytes;have hbig:¬(281474976710656<(m:Int)*(i.bytes:Int)):=by
  rw[<-Int.natCast_mul];omega
 have hsn:i.size≠0:=by omega
 obtain⟨news,hnews⟩:∃news,news=(ae z.cells m).toList:=⟨_,rfl⟩
 rw[<-hnews]at h1⊢;have hl:news.length=m*i.size:=by rw[hnews,Array.length_toList,size_zeroCells,hzs]
 have hna:ae z.cells m=news.toArray:=by rw[hnews]
 have hlen:(xs++news).length=(n+m)*i.size:=by rw[dq,hown.1,hl,eK]
 have hnil:m=0->news=[]:=fun h=>ca (by rw[hl,h,Nat.zero_mul])
 have grown:∀(old:Nat),old<n+m->∀(row:Option Nat),
  (w.drew.alloc (.cells (xs.toArray++news.toArray++ae z.cells (grownCap w (n+m) old e-(n+m))) e)).ownsRow base e i.size
   (.slice (some ⟨w.heap.size,0,none⟩) (n+m) (grownCap w (n+m) old e)) (n+m) (xs++news)∧
  w.grownBy (w.drew.alloc (.cells (xs.toArray++news.toArray++ae z.cells (grownCap w (n+m) old e-(n+m))) e)) row:=by
  intro old ho row;have hge:=grownCap_ge w (n+m) old e;have hcm:grownCap w (n+m) old e<=maxLen:=grownCap_le_maxLen w (n+m) old e h63;refine⟨⟨hlen,.inr ⟨w.heap.size,_,_,rfl,hbase,heap_alloc_new w.drew _,hge,hcm,?_,?_⟩⟩,⟨rfl,rfl,rfl,by simp,fun k hk _=>heap_alloc_old w.drew _ hk⟩⟩
  .simp only[Array.size_append,List.size_toArray,size_zeroCells,hzs,hown.1,hl,<-eK]
   congr 1
   omega
  .simp only[Array.toList_append,dT];rw[<-dT,<-hlen];exact fR
 have runs:∀(A:Option fl) (cap:Nat),cap<n+m->(eS i.size n (.slice A n cap)).run P w.drew=.ok xs.toArray w.drew->(ar #[t,ti] ty #[.slice A n cap,.int kx m]).run P w=
  .ok (.slice (some ⟨w.heap.size,0,none⟩) (n+m) (grownCap w (n+m) cap e)) (w.drew.alloc (.cells (xs.toArray++news.toArray++ae z.cells (grownCap w (n+m) cap e-(n+m))) e)):=by
  intro A cap hcap hfo;have hn:¬(n+m<=cap):=by omega
  have h63':¬(9223372036854775807<((n:Int)+(m:Int))):=by omega
  have hfit:=growslice_fits hcap hbytes;have h48':¬(281474976710656<Builtin.nextslicecap (n+m) cap*i.bytes):=by omega
  by_cases hm:m=0
  .have hnl:=hnil hm;subst hm;rw[hnl];simp only[gg]at hn h63' h48'⊢;have aa1:¬(9223372036854775807<(n:Int)):=by omega
   simp[ar,run_underlying ht,run_underlying hti,sizeOf,typeInfo,zeroValue,hi,hz,asInt,asIntOf,hw0,hn,aa1,h48',Question.forced,hfo,newRow,grownCap]
  .have hmz:¬(m*i.size=0):=fL hm hsn;simp[ar,run_underlying ht,run_underlying hti,sizeOf,typeInfo,zeroValue,hi,hz,asInt,asIntOf,hw,hneg,hbig,hn,h63',h48',Question.forced,hfo,newRow,grownCap,hmz,hna]
   congr 2
   apply ij;simp[dT]
 rcases hown.2 with⟨rfl,rfl⟩|⟨g,cap,cur,rfl,hbg,hg,hnc,hcm,hcs,htake⟩
 .have hx:xs=[]:=ca (by simpa using hown.1);subst hx;by_cases hm:m=0
  .have hnl:=hnil hm;subst hm;rw[hnl];refine⟨.slice none 0 0,w,?_,World.ownsRow_nil w base e i.size,⟨rfl,rfl,rfl,ai _,fun _ _ _=>rfl⟩,Or.inl rfl⟩;simp[ar,run_underlying ht,run_underlying hti,sizeOf,typeInfo,hi,asInt,asIntOf,hw0]
  .have hgr:=grown 0 (by omega) (bz (.slice none 0 0));exact⟨_,_,runs none 0 (by omega) (by simp[eS]),hgr.1,hgr.2,Or.inr rfl⟩
 .by_cases hroom:n+m<=cap
  .have hfit:n*i.size+news.length<=cur.size:=by rw[hl,hcs,<-eK];exact c_ _ hroom
   obtain⟨cur',h3,h4,h5⟩:=oH news (n*i.size) w cur hg hfit;obtain⟨s1,s2,s3,s4⟩:=nP g news (n*i.size) w;have hst:=run_storeCells_cells (P:=P) g (n*i.size) news 0 w (fun j hj=>by rw[cell_of_row w g _ cur e (0,0) hg];simp;omega) (fun j _=>aj hg _) h1;simp only[gg]at hst;refine⟨.slice (some ⟨g,0,none⟩) (n+m) cap,w.setCells g (n*i.size) news,?_,⟨hlen,.inr ⟨g,cap,cur',rfl,hbg,h3,hroom,hcm,by rw[h4,hcs],?_⟩⟩,⟨s1,s2,s3,by rw[s4];exact ai _,fun k _ hk=>oG news _ k (fun e=>hk (by simp[bz,e]))⟩,Or.inl rfl⟩
   .by_cases hm:m=0
    .have hnl:=hnil hm;subst hm;rw[hnl]at hst⊢;simp[ar,run_underlying ht,run_underlying hti,sizeOf,typeInfo,hi,asInt,asIntOf,hw0,hnc,add_plain,hst]
    .have hmz:¬(m*i.size=0):=fL hm hsn;simp[ar,run_underlying ht,run_underlying hti,sizeOf,typeInfo,zeroValue,hi,hz,asInt,asIntOf,hw,hneg,hbig,hroom,hmz,hna,add_plain,hst]
   .rw[h5];have h6:cur.toList.take (n*i.size)=xs:=htake;rw[h6,<-hlen];exact fR
  .have holds:∀j u,xs[j]? =some u->w.cell? ((⟨g,0,none⟩:fl).add j)=some u:=hown.cells (g:=g) rfl;have hgr:=grown cap (by omega) (bz (.slice (some ⟨g,0,none⟩) n cap));exact⟨_,_,runs (some ⟨g,0,none⟩) cap (by omega) (run_firstCells_some (P:=P) w.drew i.size n _ n cap xs hown.1 (by simpa using holds)),hgr.1,hgr.2,Or.inr rfl⟩
end
namespace Kd
theorem Gr{α:Type}{R:α->List al->Prop}{z:al}{size:Nat}{z0:α}(hz:z.cells.size=size)(hs:0<size)(h0:R z0 z.cells.toList)(m:Nat):gZ R size (cN m z0) (ae z.cells m).toList:=by
 have h:=Ab hz hs h0 m;rw[show ae z.cells m=madeCells z.cells (m*size) by unfold ae madeCells;rw[hz]];exact h
section
variable {P:bk} {ops:Array an} {rest:List an} {o:an} {a:cz} {Q:fk->cz->ab->Prop} {Kc:cz->ab->Prop} {α:Type}
variable {W:ab}{k:cJ}
theorem DZ(d:Kd α)(base:Nat)(t ti ty e:cX)(z:al)(bytes:Nat)(ht:P.underlying t=some (.slice e))(hti:P.underlying ti=some (.int k))(hinfo:(P.info? e).map (fun i=>(i.zero,i.size,i.bytes))=some (some z,d.sz,bytes))(hz:z.cells.size=d.sz)(hs0:0<d.sz)(hb0:0<bytes)(v:al)(xs:List α)(z0:α){ok:Nat->Prop}(hzero:d.M W base (fun _=>False) z0 z.cells.toList)(hfresh:∀k,W.heap.size<=k->ok k)(HO:d.R e W base ok v xs)(kx:cJ)(n:Int)(h0:0<=n)(hl:(xs.length+n.toNat)*bytes<=140737488355328)(hbase:base<=W.heap.size):
 ∃v1 w1,(ar #[t,ti] ty #[v,.int kx n]).run P W=.ok v1 w1∧d.R e w1 base ok v1 (xs++cN n.toNat z0)∧W.grownBy w1 v.ownBlock∧(v1.ownBlock=v.ownBlock∨∃b,v1.ownBlock=some b∧W.heap.size<=b):=by
 obtain⟨m,rfl⟩:=Int.eq_ofNat_of_zero_le h0;simp only[Int.toNat_natCast]at hl⊢;obtain⟨i0,hi,hzz⟩:=Option.map_eq_some_iff.1 hinfo;simp only[Prod.mk.injEq]at hzz;obtain⟨hz0,hz1,hz2⟩:=hzz;obtain⟨hok,inner,hown,hr⟩:=HO;have Nf:gZ (d.M W base (fun _=>False)) d.sz (cN m z0) (ae z.cells m).toList:=Gr hz hs0 hzero m;obtain⟨v1,w1,hrun,h2,hg,hat⟩:=oh (P:=P) W base t ti ty e i0 z d.sz bytes ht hti hi hz0 hz1 hz2 hz hs0 hb0 v xs.length inner hown kx m (mg Nf hs0 (fun _ _ hp=>d.nZ (d.jy hp))) hl hbase;have hat':v1.ownBlock=v.ownBlock∨∃b,v1.ownBlock=some b∧W.heap.size<=b:=by
  rcases hat with hat|hat
  .exact .inl hat
  .exact .inr ⟨_,hat,ai _⟩
 have hne:∀k,some k≠v.ownBlock->k<W.heap.size->some k≠v1.ownBlock:=by
  intro k hk hlt;rcases hat' with hat|⟨b,hb,hle⟩
  .rw[hat];exact hk
  .rw[hb];intro he;injection he with he;omega
 have step:∀{q:α} {c:List al} {o:Nat->Prop},d.M W base o q c->(∀k,o k->ok k∧some k≠v.ownBlock)->d.M w1 base (fun k=>ok k∧some k≠v1.ownBlock) q c:=by
  intro q c o hq ho;have h1:=d.je (w1:=w1) (fun k hk=>hg.block k hk.2.2.1 (ho k hk.1).2) (d.gQ hq);exact d.fA (fun k hk=>⟨(ho k hk.1).1,hne k (ho k hk.1).2 hk.2.2.1⟩) h1
 refine⟨v1,w1,hrun,⟨fun k hk=>?_,inner++(ae z.cells m).toList,by rw[dq,List.length_replicate];exact h2,pX (hr.nN (fun _ _ hq=>step hq (fun _ hk=>hk))) (Nf.nN (fun _ _ hq=>step hq (fun _ hk=>hk.elim)))⟩,hg,hat'⟩;rcases hat' with hat|⟨b,hb,hle⟩
 .exact hok k (hat▸hk)
 .rw[hb]at hk;injection hk with hk;exact hfresh k (by omega)
theorem xR(d:Kd α){w0:ab}(base:Nat)(hgd:o.guard=none)(s x:fc)(t ti e:cX)(z:al)(bytes:Nat)(ho:o.op=.call {callee:=.builtin .append,args:= #[s,x],argTypes:= #[t,ti]})(ht:P.underlying t=some (.slice e))(hti:P.underlying ti=some (.int k))(hinfo:(P.info? e).map (fun i=>(i.zero,i.size,i.bytes))=some (some z,d.sz,bytes))(hz:z.cells.size=d.sz)(hs0:0<d.sz)(hb0:0<bytes)(v:al)(xs:List α)(z0:α){kx:cJ}(n:Int)(ok:Nat->Prop)(hs:a.eval s=v)(hx:a.eval x=.int kx n)(hzero:d.M W base (fun _=>False) z0 z.cells.toList)(hfresh:∀k,W.heap.size<=k->ok k)(HO:d.R e W base ok v xs)(h0:0<=n)(HB:Below base w0 W)(hbase:base<=W.heap.size)(hl:(xs.length+n.toNat)*bytes<=140737488355328)(h:∀v1 w1,d.R e w1 base ok v1 (xs++cN n.toNat z0)->Below base w0 w1->W.grownBy w1 v.ownBlock->(v1.ownBlock=v.ownBlock∨∃b,v1.ownBlock=some b∧W.heap.size<=b)->wpList P ops Q rest (a.put o.dst v1) w1):
 wpList P ops Q (o::rest) a W:=by
 obtain⟨v1,w1,hr1,h1,hg,hat⟩:=DZ (P:=P) d base t ti o.type e z bytes ht hti hinfo hz hs0 hb0 v xs z0 hzero hfresh HO kx n h0 hl hbase;refine wpList_plain hgd fun K hK=>?_
 unfold cA execOp;simp only[ho,resolve,invoke,builtin,eo,gh,cU,fm,fX,gi,hs,hx,hr1];exact hK _ _ (h v1 w1 h1 (HB.grown hg hbase (Gl HO)) hg hat)
end
end Kd
end Go.Proofs.ah.aN
namespace Go.Proofs.YtlhhcnknclnlaaaGreatDoor.Top
open Go Go.WideShapes Go.RowKit Go.Proofs.ah.aN
theorem info5:(af.info? 5).map (fun i=>(i.zero,i.size,i.bytes))=some (some (.int .u8 0),1,1):=by kernel_rfl
variable {b k m n room:Nat}{w w':ab}
theorem Gs(hn:n+k<4611686018427387904):dj af 29 #[.int .i64 ((n:Int)+k)] w fun e w'=>e=.returned (.int .i64 (sec (n+k):Nat))∧w'=w:=by
 have:=uU (w:=w) hn;rwa [Int.natCast_add]at this
variable {v:al}
theorem dh{P:bk}{ops:Array an}{rest:List an}{o:an}{a:cz}{Q:fk->cz->ab->Prop}(hgd:o.guard=none)(s x:fc)(t t':cX)(ho:o.op=.call {callee:=.builtin .append,args:= #[s,x],argTypes:= #[t,t']}){u1 u2:al}(h1:a.eval s=u1)(h2:a.eval x=u2)(hr:(ar #[t,t'] o.type #[u1,u2]).run P w=.ok v w')(h:wpList P ops Q rest (a.put o.dst v) w'):wpList P ops Q (o::rest) a w:=by
 refine wpList_plain hgd fun K hK=>?_
 unfold cA execOp;simp only[ho,resolve,invoke,builtin,eo,gh,cU,fm,fX,gi,h1,h2,hr];exact hK _ _ h
variable {L:List Nm}{x:Nm}
theorem rZ(hn:L.Nodup)(hx:x∈L)(F:Nm->List Int)(l:List Int):bZ L (upd F x l)=sec l.length+bZ (L.erase x) F:=by
 rw[gU hx,upd_same];unfold bZ;rw[List.map_congr_left fun y hy=>by rw[aM _ _ fun e=>(hn.mem_erase_iff.1 hy).1 e]]
variable {D:Nat->Prop}{F:Nm->List Int}{g:Nm->Nat}
theorem Raw.change{w2:ab}{D':Nat->Prop}{q:Nat}{n:Int}{kv v' s':al}{l':List Int}{v s:Nm->al}(R:Raw w D b m room L g v s F)(hx:x∈L)(hst:St w2 b 84 (Ng m room (sec l'.length+bZ (L.erase x) F:Nat) n kv))(hle:sec l'.length+bZ (L.erase x) F<=room)(hm:eU w2 9 m q (rT L g))(ne:∀k,k≠b->k≠g x->(v x).ownBlock≠some k->k<w.heap.size->w2.heap[k]? =w.heap[k]?)(hf:St w2 (g x) 95 [v',s'])(ho:w2.ownsRow 0 5 1 v' l'.length (nums .u8 l'))(hv0:∀k,v'.ownBlock=some k->D' k)(hD:∀k,D k->D' k)(hD':∀k,D' k->k<w2.heap.size)(hap:∀y,y∈L->y≠x->∀k,(v y).ownBlock=some k->v'.ownBlock≠some k):
 Raw w2 D' b m room L g (upd v x v') (upd s x s') (upd F x l'):=by
 obtain⟨n0,kv0,tJ⟩:=R.st;refine⟨⟨n,kv,by rw[rZ R.mR hx];exact hst⟩,by rw[rZ R.mR hx];exact hle,R.rm,hD _ R.db,hD _ R.dm,rV hm,R.mR,fun y hy=>?_,fun y z hy hz hyz=>?_,hD'⟩
 .by_cases e:y=x
  .subst e;rw[upd_same,upd_same,upd_same];exact⟨hf,ho,hD _ (R.file y hy).2.2.1,hv0⟩
  .rw[aM _ _ e,aM _ _ e,aM _ _ e];obtain⟨a1,a2,a3,a4⟩:=R.file y hy;obtain⟨i1,i2⟩:=R.inj y x hy hx e;obtain⟨c1,c2,_⟩:=R.file x hx;exact⟨(ne _ (a1.ne tJ (by decide)) i1 (fun h=>a1.own_ne c2 (by decide) _ h rfl) a1.lt).trans a1,
    fq a2 fun k hk=>ne k (tJ.own_ne a2 (by decide) k hk) (c1.own_ne a2 (by decide) k hk) (i2 k hk) (bJ a2 k hk),hD _ a3,fun k hk=>hD _ (a4 k hk)⟩
 .refine⟨(R.inj y z hy hz hyz).1,fun k hk hk'=>?_⟩;by_cases e:y=x
  .subst e;rw[upd_same]at hk;rw[aM _ _ (cE hyz)]at hk';exact hap z hz (cE hyz) k hk' hk
  .rw[aM _ _ e]at hk;by_cases e':z=x
   .subst e';rw[upd_same]at hk';exact hap y hy e k hk hk'
   .rw[aM _ _ e']at hk';exact(R.inj y z hy hz hyz).2 k hk hk'
theorem Ob(k:Nat):(ae (Value.int .u8 0).cells k).toList=cN k (.int .u8 0):=by
 simp[ae,Value.cells,Nat.mod_one];exact List.eq_replicate_iff.2 ⟨by simp,fun u hu=>by simp at hu;exact hu.2.symm⟩
theorem oI(a:fl)(j:Nat):(a.add j).block=a.block:=by unfold Addr.add;split<;>rfl
variable {q:cJ}
theorem jf{A:Option fl}{l:List Int}(h:(Kd.int q).C w A n l)(hm:∀a,A=some a->w'.heap[a.block]? =w.heap[a.block]?):(Kd.int q).C w' A n l:=by
 obtain⟨h1,h2,h3⟩:=Kd.fB (d:=(0:Int)) h;refine Kd.dP (d:=(0:Int)) ⟨h1,h2,fun hn=>?_⟩;obtain⟨a,e,hc⟩:=h3 hn;exact⟨a,e,fun j hj=>(World.cell?_of_block (w:=w) (by rw[oI];exact hm a e)).trans (hc j hj)⟩
theorem wV{a:fl}{l:List Int}(h:(Kd.int q).C w (some a) n l):l.length=n∧∀j u,(nums q l)[j]? =some u->w.cell? (a.add j)=some u:=by
 obtain⟨h1,h2,h3⟩:=Kd.fB (d:=(0:Int)) h;refine⟨h1,fun j u hu=>?_⟩;have hj:j<n:=by have:=(dv.1 hu).1;simpa[nums,h1]using this
 obtain⟨a',e,hc⟩:=h3 (by omega);cases e;rw[hc j hj,<-hu];simp[nums,ao,fe];rw[aE (by omega)];simp
variable {bs:List Int}
theorem Oc{N:Nat}{l:List Int}{z:List al}(h:w.ownsRow 0 5 1 v (N+k) (nums .u8 l++z))(hl:l.length=N)(hb:bs.length=k)(hk:0<k):
 ∃g cap cur,v=.slice (some ⟨g,0,none⟩) (N+k) cap∧N+k<=cap∧w.heap[g]? =some (.cells cur 5 (0,0))∧N+k<=cur.size∧
  (w.setRow g (cur.toList.take N++nums .u8 bs++cur.toList.drop (N+k)).toArray).ownsRow 0 5 1 v (N+k) (nums .u8 (l++bs)):=by
 obtain⟨h1,h2⟩:=h;rcases h2 with⟨_,h2⟩|⟨g,cap,cur,rfl,h0,hg,hn,hm,hs,ht⟩
 .omega
 .refine⟨g,cap,cur,rfl,hn,hg,by omega,by simp[nums];omega,.inr ⟨g,cap,_,rfl,h0,setRow_heap w g cur _ 5 _ hg,hn,hm,?_,?_⟩⟩
  .simp[nums];omega
  .have e1:cur.toList.take N=nums .u8 l:=by
    have:=congrArg (List.take N) ht;rw[List.take_take,da (by simp[nums];omega)]at this;rw[show min N ((N+k)*1)=N by omega]at this;rw[this,et (by simp[nums];omega)]
   rw[e1,da (by simp[nums];omega),et (by simp[nums];omega)];simp[nums]
variable {ad:fl}
theorem Od{v s:Nm->al}{cap:Nat}(R:Raw w D b m room L g v s F)(hx:x∈L)(hb:Kd.C (Kd.int .u8) w (some ad) k bs)(hcap:k<=cap)(hk:0<k)(hk2:k<=100000)(hD:¬D ad.block)(hroom:sec ((F x).length+k)+bZ (L.erase x) F<=room):
 dj af 243 #[.pointer (some ⟨b,0,none⟩),.pointer (some ⟨g x,0,none⟩),.int .i64 (F x).length,.slice (some ad) k cap] w fun e w'=>e=.returned (.int .i64 0)∧
  ∃D' v',Raw w' D' b m room L g (upd v x v') s (upd F x (F x++bs))∧Stp D D' w w':=by
 obtain⟨n,kv,hst⟩:=R.st;obtain⟨a1,a2,a3,a4⟩:=R.file _ hx;obtain⟨A,cp,hv⟩:=aW a2;have hse:=gU hx F;have hle:=R.le;have hrm:=R.rm.1;have hp:=wT (F x).length;have c0:=a1.cell 0 rfl;rw[hv]at c0;have d1:=hst.cell 1 rfl;have d2:=hst.cell 2 rfl;have hn1:(F x).length<100000000:=by omega
 have hs1:sec ((F x).length+k)<100000000:=by unfold sec;omega
 have hs0:sec (F x).length<100000000:=by unfold sec;omega
 have hu1:bZ L F<100000000:=by omega
 have hj:¬((bZ L F:Int)+((sec ((F x).length+k):Nat)-(sec (F x).length:Nat))>room):=by omega
 generalize hN:(F x).length=N at*;have HH:=Y4 R hst hse hN;clear R hst a1 a2 a3 a4 hv hse;go_enter func243,ntmps243
 go_wp2_with fail
 have q1:N<4611686018427387904:=by omega
 have q2:N+k<4611686018427387904:=by omega
 go_quiet (first|(go_at_call_of 29 ((N:Int)+(k:Int));exact dg (Gs (n:=N) (k:=k) q2))|(go_at_call_of 29 (N:Int);exact dg (uU (n:=N) q1)))
 go_wp2_with fail
 rename Nat=>n1
 go_quiet (fail)
 rename Nat=>n2
 have f2:∀j,(w.drewN j).frozen? ⟨b,2,none⟩=false:=fun _=>HH.out.2.1.frozen 2
 go_wp2_with fail
 have hu:(bZ L F:Int)+((sec (N+k):Nat)-(sec N:Nat))=(sec (N+k)+bZ (L.erase x) F:Nat):=by have:=HH.out.2.2.1;omega
 rw[hu];obtain⟨W1,hW1⟩:∃W1,W1=(w.drewN (n1+n2)).setCell ⟨b,2,none⟩ (.int .i64 (sec (N+k)+bZ (L.erase x) F:Nat)):=⟨_,rfl⟩
 rw[<-hW1];have X:St W1 b 84 (Ng m room (sec (N+k)+bZ (L.erase x) F:Nat) n kv)∧(∀i,i≠b->W1.heap[i]? =w.heap[i]?)∧W1.heap.size=w.heap.size∧Keeps D w W1:=by
  subst hW1;obtain⟨R,hst,_⟩:=HH.out;exact⟨(show St (w.drewN (n1+n2)) b 84 _ from hst).set 2 _,fun i hi=>aw _ _ _ _ hi,by simp,((Keeps.refl D w).drewN _).setCell (.inl R.db) _⟩
 clear hW1 hu f2 d1 d2 q1 q2;obtain⟨R,hst,hse,hN⟩:=HH.out;obtain⟨a1,a2,a3,a4⟩:=R.file _ hx;have b1:St W1 (g x) 95 [v x,s x]:=(X.2.1 _ (a1.ne hst (by decide))).trans a1;have c1:=b1.cell 0 rfl;obtain⟨A',cp',hv⟩:=aW a2;rw[hv]at c1;rw[hN]at c1;have HX:=Y3 X b1 hv;clear X b1 R hst hse a1 a2 a3 a4 hv c0;refine dG [0] [1,2,3,4,5,6,7,8,9,10,11] [12,13,14,15] (by kernel_rfl) (fun _ _ x _ _ h=>by cases x<;>exact h) (by kernel_rfl) ?_;simp only[aJ,ag,eW,cG,cH];refine aI (fun K hK=>?_);go_simp;refine hK _ ?_;clear hK K;refine au ?_
 repeat quiet_step (fail)
 refine wpQuiet_nil ?_;rintro _ ⟨n3,rfl⟩;obtain⟨⟨kI,ne1,sz1,k1⟩,b1,hv⟩:=HX.out;obtain⟨R,hst,hse,_⟩:=HH.out;obtain⟨a1,a2,a3,a4⟩:=R.file _ hx;have ho:(W1.drewN n3).ownsRow 0 5 1 (.slice A' N cp') N (nums .u8 (F x)):=by
  have:=fq (w1:=W1) a2 fun i hi=>ne1 i (hst.own_ne a2 (by decide) i hi)
  rwa [hv,hN]at this
 obtain⟨i0,hi,hz0,hz1,hz2⟩:=info_parts info5;obtain⟨v',w3,hrun,ho3,hg3,hb3⟩:=oh (P:=af) (W1.drewN n3) 0 40 3 40 5 i0 (.int .u8 0) 1 1 cx underlying3 hi hz0 hz1 hz2 rfl (by decide) (by decide) _ N _ ho .i64 k (fun u hu=>by rw[Ob]at hu;rw[List.eq_of_mem_replicate hu];rfl) (by omega) (fz _);have hvD:=fun i hi=>a4 i (by rw[hv,hN];exact hi)
 have b3:=St.grown (show St (W1.drewN n3) _ _ _ from b1) hg3 fun e=>b1.own_ne ho (by decide) _ e rfl
 have k3:=(k1.drewN n3).grown hg3 fun i hi=>.inl (hvD i hi)
 have k4:=k3.setCell (a:=⟨g x,0,none⟩) (.inl a3) v';have b4:=b3.set 0 v';have XY:=b_ (p:=⟨g x,0,none⟩) ho3 (fun e=>b3.own_ne ho3 (by decide) _ e.symm rfl) v';obtain⟨hbl,hbc⟩:=wV hb;obtain⟨g3,KM,cur,rfl,hle3,hc4,hsz,ho5⟩:=Oc XY hN hbl hk;have D9:ad.block<w.heap.size:=by
  have:=hbc 0 _ (aE (by simp[nums];omega));have:=World.block_lt_of_cell? w _ this;rwa [oI]at this
 obtain⟨_,aa2⟩:=wV (jf hb fun a e=>by cases e;exact k4.at_ D9 hD);have hcp:=run_copy_row (P:=af) _ 40 40 3 5 g3 N k (KM-N) ad k cap cur 5 (nums .u8 bs) cx (by kernel_rfl) hc4 (by simp[nums,hbl]) aa2 (by simp[nums];omega) (by simp[nums];intros;subst_vars;rfl);have c4:=b4.cell 0 rfl;have f3:=b3.frozen 0;have c3:=b3.cell 0 rfl;have hvo:∀i,(v x).ownBlock=some i↔(Value.slice A' N cp').ownBlock=some i:=fun i=>by rw[hv,hN]
 have FIN:Raw ((w3.setCell ⟨g x,0,none⟩ (.slice (some ⟨g3,0,none⟩) (N+k) KM)).setRow g3 (cur.toList.take N++nums .u8 bs++cur.toList.drop (N+(nums .u8 bs).length)).toArray) (fun i=>D i∨i=g3) b m room L g (upd v x (.slice (some ⟨g3,0,none⟩) (N+k) KM)) (upd s x (s x)) (upd F x (F x++bs))∧
  Stp D (fun i=>D i∨i=g3) w ((w3.setCell ⟨g x,0,none⟩ (.slice (some ⟨g3,0,none⟩) (N+k) KM)).setRow g3 (cur.toList.take N++nums .u8 bs++cur.toList.drop (N+(nums .u8 bs).length)).toArray):=by
  have e:(nums .u8 bs).length=k:=by simp[nums,hbl]
  rw[e];generalize Ce:w3.setCell ⟨g x,0,none⟩ (.slice (some ⟨g3,0,none⟩) (N+k) KM)=W4 at*;have gb:∀{i t vs},St W4 i t vs->5≠t->i≠g3:=fun h ht e=>h.own_ne XY ht _ rfl e.symm
  have n4:∀i,i≠g x->W4.heap[i]? =w3.heap[i]? :=fun i hi=>by rw[<-Ce];exact aw _ _ _ _ hi
  have n3':∀i,i<w.heap.size->(v x).ownBlock≠some i->w3.heap[i]? =W1.heap[i]? :=fun i hi hn=>hg3.block i (by simpa[sz1]using hi) fun e=>hn ((hvo i).2 e.symm)
  have hbx:=hst.ne a1 (by decide);have hmx:=R.map.ne a1;have s4:St W4 b 84 (Ng m room (sec (N+k)+bZ (L.erase x) F:Nat) n kv):=(n4 _ hbx).trans ((n3' _ hst.lt fun e=>hst.own_ne a2 (by decide) _ e rfl).trans kI);have m4:=R.map.move ((n4 _ hmx).trans ((n3' _ R.map.lt fun e=>R.map.own_ne a2 _ e rfl).trans (ne1 _ (R.map.ne hst))));have g3D:g3<w3.heap.size:=bJ ho3 _ rfl;have g3c:(v x).ownBlock=some g3∨g3=w.heap.size:=by
   rcases hb3 with h|h
   .exact .inl ((hvo _).2 h.symm)
   .right;simpa[bz,sz1]using h
  have o5:∀i,i≠g3->(W4.setRow g3 (cur.toList.take N++nums .u8 bs++cur.toList.drop (N+k)).toArray).heap[i]? =W4.heap[i]? :=fun i hi=>setRow_other _ _ _ _ hi
  have z5:(W4.setRow g3 (cur.toList.take N++nums .u8 bs++cur.toList.drop (N+k)).toArray).heap.size=w3.heap.size:=by rw[<-Ce];simp[World.setRow]
  have el:(F x++bs).length=N+k:=by simp[hN,hbl]
  refine⟨R.change hx (n:=n) (kv:=kv) (by rw[el];exact(o5 _ (gb s4 (by decide))).trans s4) (by rw[el];exact hroom) (m4.move (o5 _ fun e=>m4.own_ne XY _ rfl e.symm)) (fun i h1 h2 h3 h4=>?_) ((o5 _ (gb b4 (by decide))).trans b4) (by rw[el];exact ho5) (fun i hi=>.inr (by simpa[bz]using hi.symm)) (fun _ h=>.inl h) (fun i hi=>?_) (fun y hy hyx i hi h=>?_),?_,?_⟩
  .have:i≠g3:=fun e=>by
    subst e;rcases g3c with h|h
    .exact h3 h
    .omega
   rw[o5 i this,n4 i h2,n3' i h4 h3,ne1 i h1]
  .rw[z5];rcases hi with hi|rfl
   .exact dr (R.lt i hi) k3.size
   .exact g3D
  .have h:g3=i:=by simpa[bz]using h
   subst h;rcases g3c with h|h
   .exact(R.inj y x hy hx hyx).2 _ hi h
   .have:=bJ (R.file y hy).2.1 _ hi;omega
  .exact⟨k4.1,k4.2.1,k4.2.2.1,by rw[z5];exact k3.size,fun i h1 h2=>(o5 i fun e=>by
    subst e;rcases g3c with h|h
    .exact h2 (a4 _ h)
    .omega).trans (k4.at_ h1 h2)⟩
  .intro i hi;rcases hi with hi|rfl
   .exact .inl hi
   .rcases g3c with h|h
    .exact .inl (a4 _ h)
    .right;omega
 have HF:=Y1 FIN;clear FIN kI ne1 sz1 k1 b1 hv R hst hse a1 a2 a3 a4 ho hg3 hvD b3 k3 hbl hbc ho3 hb3 k4 b4 XY hc4 ho5 D9 aa2 hvo hb;generalize World.setRow _ g3 _=W5 at hcp HF;have hkk:(N:Int)+k-N=k:=by omega
 have hNc:¬KM=N:=by omega
 clear HH HX c1;refine dh rfl (.tmp 64) (.tmp 71) 40 3 rfl (by simp[Act.eval]) (by simp[Act.eval,hkk,cY];omega) hrun ?_
 go_wp2_with fail
 obtain⟨y1,y2⟩:=HF.out;rw[uR (f:=s) rfl]at y1;go_ret;exact⟨rfl,_,_,y1,y2⟩
theorem Ad{c:Nat}{F:Files}(h:aV w D b room F c)(s:ByteArray)(hs:s.size<=maxLen){l:List Int}(hx:F (nm s)=some l){cap:Nat}(hb:Kd.C (Kd.int .u8) w (some ad) k bs)(hcap:k<=cap)(hk:0<k)(hk2:k<=100000)(hD:¬D ad.block)(hroom:c+sec (l.length+k)<=room):
 dj af 215 #[.pointer (some ⟨b,0,none⟩),.string s,.slice (some ad) k cap] w fun e w'=>e=.returned (.int .i64 0)∧∃D',aV w' D' b room (upd F (nm s) (some (l++bs))) (c-sec l.length+sec (l.length+k))∧Stp D D' w w':=by
 obtain⟨m,L,g,v,sy,G,R,hc,hF⟩:=h;obtain⟨nQ,rfl⟩:=aV.in_ hF hx;obtain⟨n,kv,hst⟩:=R.st;have R1:=R.op hst;obtain⟨a1,a2,a3,a4⟩:=R1.file _ nQ;obtain⟨A,cp,hv⟩:=aW a2;have c0:=a1.cell 0 rfl;rw[hv]at c0;have hse:=gU nQ G;have hkk:=R.keeps n;have hbl:=Y1 (wV hb).1;have hb1:Kd.C (Kd.int .u8) (uS w b n) (some ad) k bs:=jf hb fun a e=>by
  cases e;exact aw _ _ _ _ fun e=>hD (e▸R.db)
 have hW:=Od R1 nQ hb1 hcap hk hk2 hD (by omega);have HH:=Y5 hc hF hx hse hkk;clear hc hF hx hse hkk a1 a2 a3 a4 hv hb hb1;go_enter func215,ntmps215
 go_wp2_with (first|(go_at_call 70;refine(Ac hst R.map hs (mQ nQ)).mono ?_;rintro e w' ⟨rfl,rfl⟩)|(go_at_call 243;refine hW.mono ?_;rintro e w' ⟨rfl,D',v',R2,hk2⟩))
 obtain⟨hc,hF,hx,hse,hkk⟩:=HH.out;go_ret;refine⟨rfl,D',⟨_,_,_,_,_,_,R2,?_,fun y=>?_⟩,hkk.trans hk2⟩
 .rw[hc,rZ R.mR nQ,hse];have:(G (nm s)++bs).length=(G (nm s)).length+k:=by rw[dq,hbl.out]
  rw[this];omega
 .by_cases e:y=nm s
  .subst e;rw[upd_same,upd_same,if_pos nQ]
  .rw[aM _ _ e,aM _ _ e,hF]
end Go.Proofs.YtlhhcnknclnlaaaGreatDoor.Top
namespace Go.Proofs.ah.dx
open Go.RowKit Go.Proofs.ah.aN
theorem gM(k k':cJ)(x y:Int):fg (.int k x) (.int k' y)=pure (.int k (if x<y then y else x)):=by simp only[fg,gt_iff_lt]
theorem gN(k k':cJ)(x y:Int):fh (.int k x) (.int k' y)=pure (.int k (if y<x then y else x)):=by simp only[fh]
theorem kY(ats:Array cX)(ty:cX)(a b:al):gj ats ty #[a,b]=(fg a b >>= fun s=>pure s):=by simp only[gj,fp,fN]
theorem lg(ats:Array cX)(ty:cX)(a b:al):gm ats ty #[a,b]=(fh a b >>= fun s=>pure s):=by simp only[gm,fp,fN]
end Go.Proofs.ah.dx
namespace Go.Proofs.ah.aN
open Go.RowKit
section
variable {P:bk} {ops:Array an} {rest:List an} {o:an} {a:cz} {Q:fk->cz->ab->Prop} {W:ab}
variable {ts:Array cX}
theorem bQ{f:FuncId}{ah2:Array fc}(_ho:o.op=.call {callee:=.value (.func f),args:=ah2,argTypes:=ts})(h:wpList P ops Q (o::rest) a W):wpList P ops Q (o::rest) a W:=h
theorem fF{b:Builtin}{xs:Array fc}(_ho:o.op=.call {callee:=.builtin b,args:=xs,argTypes:=ts})(h:wpList P ops Q (o::rest) a W):wpList P ops Q (o::rest) a W:=h
end
def mx(a b:Int):Int:=if a<b then b else a
def mn(a b:Int):Int:=if b<a then b else a
def shl(k:cJ)(x y:Int):Int:=k.wrap (x*2^min y.toNat k.bits)
def shr(k:cJ)(x y:Int):Int:=x/2^min y.toNat k.bits
variable {j x y:Int}{k:cJ}
theorem aaN(h:shl k x y=j)(hy:y<=k.bits):k.wrap (x*2^y.toNat)=j:=by rw[<-h];unfold shl;rw[ey (by omega)]
theorem Ae(h:shr k x y=j)(hy:y<=k.bits):x/2^y.toNat=j:=by rw[<-h];unfold shr;rw[ey (by omega)]
theorem Gt(w:ab)(n:Nat):w.drewN n=w.drewN n:=rfl
namespace Kd
section
variable {α:Type} {d:Kd α} {e base:Nat} {ok:Nat->Prop} {W w1:ab} {v:al} {xs:List α}
theorem Oe(h:d.R e W base ok v xs)(hE:d.E=[]){g:Nat}(hne:some g≠v.ownBlock):d.R e W base (fun k=>ok k∧k≠g) v xs:=
 iA (Cc hE h) (fun k hk=>⟨h.1 k hk.symm,fun e_=>hne (by rw[<-e_];exact hk)⟩)
theorem jT(h:d.R e W base ok v xs)(hE:d.E=[]){row:Option Nat}(hg:W.grownBy w1 row)(hne:∀k,row=some k->some k≠v.ownBlock):d.R e w1 base ok v xs:=
 iA (Sz (Cc hE h) hg (fun k hk e_=>hne k e_.symm hk)) (fun k hk=>h.1 k hk.symm)
end
end Kd
end Go.Proofs.ah.aN
namespace Go.Proofs.ah.bA
open Go.Proofs.ah.aN (aG)
def qJ(md:Region.Mode)(o:an):List Nat:=(o.after.toList.filter (fun e=>Region.binds md e)).map (fun e=>e.on)
def Cg(md:Region.Mode)(ops:Array an)(i:Nat)(oi:an):List Nat:=(az ops.size).filter fun j=> !(j==i)&&match ops[j]? with
 |some oj=> !(oj.after.any (fun e=>Region.binds md e&&e.on==i)||oi.apart ops oj)
 |none=>false
def mh(md:Region.Mode)(ops:Array an):Bool×List (List Nat×List Nat):=(Region.noSelect ops,(az ops.size).map fun i=>match ops[i]? with
 |some o=>(qJ md o,Cg md ops i o)
 |none=>([],[]))
def mV(T:List (List Nat×List Nat))(l:List Bool)(i:Nat):Bool:= !l.getD i true&&match T[i]? with
 |some r=>r.1.all (fun j=>l.getD j false)
 |none=>false
def uW(T:List (List Nat×List Nat))(l:List Bool):List Nat:=(az T.length).filter (mV T l)
def D_(T:List (List Nat×List Nat))(l:List Bool)(i:Nat):Bool:=match T[i]? with
 |some r=>r.2.all (fun j=>l.getD j true)
 |none=>false
def wW(T:List (List Nat×List Nat))(l:List Bool):Bool:=(az T.length).all fun j=> !l.getD j false||match T[j]? with
 |some r=>r.1.all (fun k=>l.getD k false)
 |none=>true
def uX(T:List (List Nat×List Nat))(i:Nat):Nat->Nat->Bool
 |0,_=>false
 |fuel+1,d=>match T[d]? with
  |some r=>r.1.any fun j=>j==i||uX T i fuel j
  |none=>false
def lastT(T:List (List Nat×List Nat))(l:List Bool)(ds:List Nat)(i:Nat):Bool:=ds.all fun d=>l.getD d true||uX T i T.length d
section
variable {md:Region.Mode} {ops:Array an} {T:Bool×List (List Nat×List Nat)} {l l' li lj lk:Array Bool} {ds:List Nat} {i j k:Nat}
theorem gd(l:Array Bool)(j:Nat)(b:Bool):l.getD j b=l.toList.getD j b:=by simp[Array.getD_eq_getD_getElem?,ao]
theorem Ag(o:an)(p:Nat->Bool):o.after.all (fun e=> !Region.binds md e||p e.on)=(qJ md o).all p:=by
 unfold qJ;rw[<-Array.all_toList]
 induction o.after.toList with
 |nil=>rfl
 |cons e r ih=>
  rw[List.all_cons,ih,ft];cases h:Region.binds md e<;>simp
theorem KN(o:an)(p:Nat->Bool):o.after.any (fun e=>Region.binds md e&&p e.on)=(qJ md o).any p:=by
 unfold qJ;rw[<-Array.any_toList]
 induction o.after.toList with
 |nil=>rfl
 |cons e r ih=>
  rw[List.any_cons,ih,ft];cases h:Region.binds md e<;>simp
theorem mW:(mh md ops).2.length=ops.size:=by simp[mh]
theorem qK{o:an}(h:ops[i]? =some o):(mh md ops).2[i]? =some (qJ md o,Cg md ops i o):=by
 have hi:=(di.1 h).1;unfold mh;rw[fe,List.getElem?_range hi,Option.map_some,h]
theorem qL(h:ops[i]? =none):(mh md ops).2[i]? =none:=by
 have hi:ops.size<=i:=Array.getElem?_eq_none_iff.1 h;exact List.getElem?_eq_none (by rw[mW];exact hi)
theorem Gu:mV (mh md ops).2 l.toList i=(!l.getD i true&&((ops[i]?).map (·.after.all fun e=> !Region.binds md e||l.getD e.on false)).getD false):=by
 unfold mV;rw[gd];cases h:ops[i]? with
 |none=>rw[qL h];rfl
 |some o=>
  rw[qK h];simp only[Option.map_some,Option.getD_some];rw[<-Ag];simp only[gd]
theorem ready_eq:Region.ready md ops l=uW (mh md ops).2 l.toList:=by
 unfold Region.ready uW;rw[mW];refine List.filter_congr (fun i _=>?_);rw[Gu]
theorem free_eq:Region.free md ops l i=D_ (mh md ops).2 l.toList i:=by
 unfold Region.free D_;cases h:ops[i]? with
 |none=>rw[qL h]
 |some oi=>
  rw[qK h];simp only[Cg];rw[List.all_filter]
  congr 1
  funext j
  rw[gd];cases hj:ops[j]? with
  |none=>cases(j==i)<;>cases(l.toList.getD j true)<;>simp
  |some oj=>
   cases(j==i)<;>cases(l.toList.getD j true)<;>cases(oj.after.any (fun e=>Region.binds md e&&e.on==i)||oi.apart ops oj)<;>simp_all
theorem KP:Region.tK md ops l=wW (mh md ops).2 l.toList:=by
 unfold Region.tK wW;rw[mW]
 congr 1
 funext j
 rw[gd];cases h:ops[j]? with
 |none=>rw[qL h]
 |some o=>
  rw[qK h];simp only;rw[<-Ag];simp only[gd]
theorem Ea:∀(fuel d:Nat),Region.jS md ops i fuel d=uX (mh md ops).2 i fuel d
 |0,_=>rfl
 |fuel+1,d=>by
  unfold Region.jS uX;cases h:ops[d]? with
  |none=>rw[qL h]
  |some o=>
   rw[qK h];simp only;rw[<-KN]
   congr 1
   funext e
   rw[Ea fuel]
theorem SI:Region.lastB md ops l ds i=lastT (mh md ops).2 l.toList ds i:=by
 unfold Region.lastB lastT;rw[mW]
 congr 1
 funext d
 rw[gd,Ea]
theorem vN(h:mV T.2 l.toList i=true)(hT:mh md ops=T):(Region.ready md ops l).contains i=true:=by
 subst hT;rw[ready_eq];unfold uW;rw[List.contains_iff_mem,List.mem_filter,bb];refine⟨?_,h⟩;unfold mV at h;rw[aa]at h;cases hq:(mh md ops).2[i]? with
 |none=>rw[hq]at h;simp at h
 |some r=>exact(dv.1 hq).1
theorem xS(h:(l.toList.set i true==l'.toList)=true):(l.setIfInBounds i true==l')=true:=by
 rw[beq_iff_eq]at h⊢;apply ij;rw[Array.toList_setIfInBounds];exact h
def DX(T:Bool×List (List Nat×List Nat))(l l':List Bool)(i:Nat):Bool:=T.1&&D_ T.2 l i&&mV T.2 l i&&(l.set i true==l')
theorem jU(hT:mh md ops=T)(h:DX T l.toList l'.toList i=true):rX md ops l l' i=true:=by
 simp only[DX,aa]at h;obtain⟨⟨⟨h1,h2⟩,h3⟩,h4⟩:=h;have h5:=vN h3 hT;have h6:=xS h4;subst hT;simp only[rX,aa];exact⟨⟨⟨h1,by rw[free_eq];exact h2⟩,h5⟩,h6⟩
def Og(T:Bool×List (List Nat×List Nat))(ds:List Nat)(l l':List Bool)(i:Nat):Bool:=T.1&&D_ T.2 l i&&mV T.2 l i&&wW T.2 l&&lastT T.2 l ds i&&(l.set i true==l')
theorem SK(hT:mh md ops=T)(h:Og T ds l.toList l'.toList i=true):takeB md ops ds l l' i=true:=by
 simp only[Og,aa]at h;obtain⟨⟨⟨⟨⟨h1,h2⟩,h3⟩,h4⟩,h5⟩,h6⟩:=h;have h7:=vN h3 hT;have h8:=xS h6;subst hT;simp only[takeB,aa];exact⟨⟨⟨⟨⟨h1,by rw[free_eq];exact h2⟩,h7⟩,by rw[KP];exact h4⟩,by rw[SI];exact h5⟩,h8⟩
theorem pY(hT:mh md ops=T)(h:(uW T.2 l.toList==[i]&&l.toList.set i true==l'.toList)=true):uV md ops l l' i=true:=by
 simp only[aa]at h;obtain⟨h1,h2⟩:=h;subst hT;simp only[uV,aa];exact⟨by rw[ready_eq];exact h1,xS h2⟩
theorem Oh(hT:mh md ops=T)(h:(uW T.2 l.toList==[i,j]&&l.toList.set i true==li.toList&&l.toList.set j true==lj.toList)=true):(Region.ready md ops l==[i,j]&&l.setIfInBounds i true==li&&l.setIfInBounds j true==lj)=true:=by
 simp only[aa]at h⊢;obtain⟨⟨h1,h2⟩,h3⟩:=h;subst hT;exact⟨⟨by rw[ready_eq];exact h1,xS h2⟩,xS h3⟩
theorem Ji(hT:mh md ops=T)(h:(uW T.2 l.toList==[])=true):(Region.ready md ops l==[])=true:=by
 subst hT;rw[ready_eq];exact h
def XZ(B:List Nat)(d:Nat):List Nat->Nat
 | []=>0
 |n::r=>(2^n ||| (if n<d then B.getD n 0 else 0)) ||| XZ B d r
def qM(T:List (List Nat×List Nat))(B:List Nat):Bool:=(az T.length).all fun d=>match T[d]? with
 |some r=>(B.getD d 0 ||| XZ B d r.1)==XZ B d r.1
 |none=>false
theorem Jj{B:List Nat}{d i:Nat}:∀{ns:List Nat},(XZ B d ns).testBit i=true->∃n∈ns,n=i∨(n<d∧(B.getD n 0).testBit i=true)
 | [],h=>by simp[XZ]at h
 |n::r,h=>by
  unfold XZ at h;rw[eM,eM,cD,cD]at h;rcases h with(h|h)|h
  .rw[Nat.testBit_two_pow]at h;exact⟨n,fb,.inl (by simpa using h)⟩
  .by_cases hn:n<d
   .rw[if_pos hn]at h;exact⟨n,fb,.inr ⟨hn,h⟩⟩
   .rw[if_neg hn]at h;simp at h
  .obtain⟨m,hm,h2⟩:=Jj h;exact⟨m,List.mem_cons_of_mem _ hm,h2⟩
theorem Ai{T:List (List Nat×List Nat)}{B:List Nat}(hB:qM T B=true):∀(fuel d:Nat),d<fuel->d<T.length->(B.getD d 0).testBit i=true->uX T i fuel d=true
 |0,d,h,_,_=>by omega
 |fuel+1,d,h,hd,hb=>by
  have h1:=ax.1 hB d (bb.2 hd);cases hr:T[d]? with
  |none=>rw[hr]at h1;simp at h1
  |some r=>
   rw[hr]at h1;simp only[beq_iff_eq]at h1;have h2:(XZ B d r.1).testBit i=true:=by rw[<-h1,eM,hb,gx]
   obtain⟨n,hn,h3⟩:=Jj h2;unfold uX;rw[hr];simp only;rw[List.any_eq_true];refine⟨n,hn,?_⟩;rcases h3 with rfl|⟨h4,h5⟩
   .simp
   .rw[Ai hB fuel n (by omega) (by omega) h5,gz]
def Wv(T:List (List Nat×List Nat))(B:List Nat)(l:List Bool)(ds:List Nat)(i:Nat):Bool:=ds.all fun d=>l.getD d true||(decide (d<T.length)&&(B.getD d 0).testBit i)
def Ww(T:Bool×List (List Nat×List Nat))(B:List Nat)(ds:List Nat)(l l':List Bool)(i:Nat):Bool:=T.1&&D_ T.2 l i&&mV T.2 l i&&wW T.2 l&&Wv T.2 B l ds i&&(l.set i true==l')
variable {B:List Nat}
theorem tN(hT:mh md ops=T)(hB:qM T.2 B=true)(h:Ww T B ds l.toList l'.toList i=true):takeB md ops ds l l' i=true:=by
 refine SK hT ?_;simp only[Ww,Og,aa]at h⊢;obtain⟨⟨⟨⟨⟨h1,h2⟩,h3⟩,h4⟩,h5⟩,h6⟩:=h;refine⟨⟨⟨⟨⟨h1,h2⟩,h3⟩,h4⟩,?_⟩,h6⟩;unfold Wv at h5;unfold lastT;rw[ax]at h5⊢;intro d hd;have h7:=h5 d hd;rw[cD,aa,decide_eq_true_eq]at h7;rcases h7 with h7|⟨h8,h9⟩
 .rw[h7,gx]
 .rw[Ai hB _ d h8 h8 h9,gz]
theorem Aj{P:bk}{Q:fk->cz->ab->Prop}{S:ab->Prop}{n:Nat}{a:cz}{w:ab}(hT:mh md ops=T)(hB:qM T.2 B=true)(h:aG (mh md ops=T)->aG (qM T.2 B=true)->aK P md ops Q S ds n l a w):aK P md ops Q S ds n l a w:=h ⟨hT⟩ ⟨hB⟩
end
def qb:Code->Nat->Option (Array an)
 | .region id ops _,k=>if id==k then some ops else none
 | .seq a b,k=>match qb a k with
  |some o=>some o
  |none=>qb b k
 | .cond _ a b,k=>match qb a k with
  |some o=>some o
  |none=>qb b k
 | .block _ c,k=>qb c k
 | .loop c,k=>qb c k
 | .scope c,k=>qb c k
 | .rangeFunc _ _ a b,k=>match qb a k with
  |some o=>some o
  |none=>qb b k
 |_,_=>none
def opsOf(f:Func)(k:Nat):Array an:=((f.body.bind fun c=>qb c k)).getD #[]
end Go.Proofs.ah.bA
namespace Go.Proofs.YtlhhcnknclnlaaaGreatDoor.Top
open Go Go.WideShapes Go.RowKit Go.Proofs.ah.aN Go.Proofs.ah.dx
theorem Gv:(af.info? 5).map (fun i=>(i.zero,i.size,i.bytes))=some (some (.int .u8 0),1,1):=by kernel_rfl
variable {A0:Option fl}{c0:Nat}{w:ab}
theorem Eb{l0:List Int}(hr0:Kd.C (Kd.int .u8) w A0 l0.length l0)(hc0:l0.length<=c0)(hl:l0.length<1000000000000):
 dj af 47 #[.slice A0 l0.length c0] w fun e w'=>∃A c,e=.returned (.slice A l0.length c)∧w'.ownsRow w.heap.size 5 1 (.slice A l0.length c) l0.length (nums .u8 l0)∧Below w.heap.size w w':=by
 have nS:=Y1 hr0;have HB:=Y1 (cd w.heap.size w);clear hr0;have X0:=cx;have q22:∀(w:ab) (a:Option fl) (n c:Nat),(binOp .eql 40 (.slice a n c) (.slice none 0 0)).run af w=.ok (.bool a.isNone) w:=fun w a n c=>dd w _ _ a n c cx
 cases A0 with
 |none=>
  have hz:l0=[]:=by
   cases l0 with
   |nil=>rfl
   |cons x l=>obtain⟨_,e,_⟩:=nS.out.2.2 (by simp);cases e
  subst hz;clear hl;go_enter gS,gA
  go_wp2
  go_ret;exact⟨_,_,rfl,⟨rfl,.inl ⟨rfl,rfl⟩⟩,cd _ _⟩
 |some a=>
  have LM:=Y1 hl;clear hl hc0;go_enter gS,gA
  go_wp2_with (first|((with_reducible refine bP (N:=5) rfl ?_);refine Kd.xK (Kd.int .u8) _ 5 ?hg (N:=5) ?hd (xs:=([]:List Int)) (inner:=[]) (ok:=fun _=>True) (lX:=fun _=>True) ?hr ?hp (fun _ hk=>hk) trivial (cd _ _) (ai _) (by simp) ?_;(case hd=>rfl);(case hg=>rfl);(case hr=>first|(go_simp;done)|(go_simp;rfl));(case hp=>exact(gZ.none _ _));intro v109 w5 vO hb Gw mq;clear Gw mq;have HO:=Y1 vO;have HB1:=Y1 hb;clear hb vO)|((with_reducible refine fF (b:=.append) (xs:= #[.tmp 5,.tmp 6]) rfl ?_);at_builtin;refine Kd.iR (Kd.int .u8) (w0:=w) w.heap.size rfl (.tmp 5) (.tmp 6) 40 5 (.int .u8 0) 1 rfl cx Gv rfl (by decide) (by omega) v109 [] l0 _ _ _ (fun _=>True) (fun _=>False) rfl rfl HO.out (Kd.bM nS.out HB1.out) (fun _ _ h=>h) (fun _ h=>h.elim) (fun _ _=>trivial) HB1.out (aC HB1.out) (by have:=LM.out;simp;omega) ?_;intro X3 w7 ho hb hg hat;clear hg hat;have HP:=Y1 ho;have HB2:=Y1 hb;clear ho hb))
  obtain⟨A,c,rfl⟩:=Kd.dV HP.out;go_ret;exact⟨_,_,rfl,Kd.jQ HP.out,HB2.out⟩
theorem Gx:(af.info? 36).map (fun i=>(i.zero,i.size,i.bytes))=some (some (.int .u64 0),1,8):=by kernel_rfl
theorem Oi{l0:List Int}(hr0:Kd.C (Kd.int .u64) w A0 l0.length l0)(hc0:l0.length<=c0)(hl:l0.length<1000000000000):
 dj af 194 #[.slice A0 l0.length c0] w fun e w'=>∃A c,e=.returned (.slice A l0.length c)∧w'.ownsRow w.heap.size 36 1 (.slice A l0.length c) l0.length (nums .u64 l0)∧Below w.heap.size w w':=by
 have nS:=Y1 hr0;have HB:=Y1 (cd w.heap.size w);clear hr0;have X0:=dt;have q22:∀(w:ab) (a:Option fl) (n c:Nat),(binOp .eql 251 (.slice a n c) (.slice none 0 0)).run af w=.ok (.bool a.isNone) w:=fun w a n c=>dd w _ _ a n c dt
 cases A0 with
 |none=>
  have hz:l0=[]:=by
   cases l0 with
   |nil=>rfl
   |cons x l=>obtain⟨_,e,_⟩:=nS.out.2.2 (by simp);cases e
  subst hz;clear hl;go_enter gC,fY
  go_wp2
  go_ret;exact⟨_,_,rfl,⟨rfl,.inl ⟨rfl,rfl⟩⟩,cd _ _⟩
 |some a=>
  have LM:=Y1 hl;clear hl hc0;go_enter gC,fY
  go_wp2_with (first|((with_reducible refine bP (N:=5) rfl ?_);refine Kd.xK (Kd.int .u64) _ 36 ?hg (N:=5) ?hd (xs:=([]:List Int)) (inner:=[]) (ok:=fun _=>True) (lX:=fun _=>True) ?hr ?hp (fun _ hk=>hk) trivial (cd _ _) (ai _) (by simp) ?_;(case hd=>rfl);(case hg=>rfl);(case hr=>first|(go_simp;done)|(go_simp;rfl));(case hp=>exact(gZ.none _ _));intro v109 w5 vO hb Gw mq;clear Gw mq;have HO:=Y1 vO;have HB1:=Y1 hb;clear hb vO)|((with_reducible refine fF (b:=.append) (xs:= #[.tmp 5,.tmp 6]) rfl ?_);at_builtin;refine Kd.iR (Kd.int .u64) (w0:=w) w.heap.size rfl (.tmp 5) (.tmp 6) 251 36 (.int .u64 0) 8 rfl dt Gx rfl (by decide) (by omega) v109 [] l0 _ _ _ (fun _=>True) (fun _=>False) rfl rfl HO.out (Kd.bM nS.out HB1.out) (fun _ _ h=>h) (fun _ h=>h.elim) (fun _ _=>trivial) HB1.out (aC HB1.out) (by have:=LM.out;simp;omega) ?_;intro X3 w7 ho hb hg hat;clear hg hat;have HP:=Y1 ho;have HB2:=Y1 hb;clear ho hb))
  obtain⟨A,c,rfl⟩:=Kd.dV HP.out;go_ret;exact⟨_,_,rfl,Kd.jQ HP.out,HB2.out⟩
theorem Gy:(af.info? 4).map (fun i=>(i.zero,i.size,i.bytes))=some (some (.bool false),1,1):=by kernel_rfl
theorem Oj{l0:List Bool}(hr0:Kd.C Kd.bool w A0 l0.length l0)(hc0:l0.length<=c0)(hl:l0.length<1000000000000):
 dj af 30 #[.slice A0 l0.length c0] w fun e w'=>∃A c,e=.returned (.slice A l0.length c)∧w'.ownsRow w.heap.size 4 1 (.slice A l0.length c) l0.length (bools l0)∧Below w.heap.size w w':=by
 have nS:=Y1 hr0;have HB:=Y1 (cd w.heap.size w);clear hr0;have X0:=ef;have q22:∀(w:ab) (a:Option fl) (n c:Nat),(binOp .eql 41 (.slice a n c) (.slice none 0 0)).run af w=.ok (.bool a.isNone) w:=fun w a n c=>dd w _ _ a n c ef
 cases A0 with
 |none=>
  have hz:l0=[]:=by
   cases l0 with
   |nil=>rfl
   |cons x l=>obtain⟨_,e,_⟩:=nS.out.2.2 (by simp);cases e
  subst hz;clear hl;go_enter ia,gO
  go_wp2
  go_ret;exact⟨_,_,rfl,⟨rfl,.inl ⟨rfl,rfl⟩⟩,cd _ _⟩
 |some a=>
  have LM:=Y1 hl;clear hl hc0;go_enter ia,gO
  go_wp2_with (first|((with_reducible refine bP (N:=5) rfl ?_);refine Kd.xK Kd.bool _ 4 ?hg (N:=5) ?hd (xs:=([]:List Bool)) (inner:=[]) (ok:=fun _=>True) (lX:=fun _=>True) ?hr ?hp (fun _ hk=>hk) trivial (cd _ _) (ai _) (by simp) ?_;(case hd=>rfl);(case hg=>rfl);(case hr=>first|(go_simp;done)|(go_simp;rfl));(case hp=>exact(gZ.none _ _));intro v109 w5 vO hb Gw mq;clear Gw mq;have HO:=Y1 vO;have HB1:=Y1 hb;clear hb vO)|((with_reducible refine fF (b:=.append) (xs:= #[.tmp 5,.tmp 6]) rfl ?_);at_builtin;refine Kd.iR Kd.bool (w0:=w) w.heap.size rfl (.tmp 5) (.tmp 6) 41 4 (.bool false) 1 rfl ef Gy rfl (by decide) (by omega) v109 [] l0 _ _ _ (fun _=>True) (fun _=>False) rfl rfl HO.out (Kd.bM nS.out HB1.out) (fun _ _ h=>h) (fun _ h=>h.elim) (fun _ _=>trivial) HB1.out (aC HB1.out) (by have:=LM.out;simp;omega) ?_;intro X3 w7 ho hb hg hat;clear hg hat;have HP:=Y1 ho;have HB2:=Y1 hb;clear ho hb))
  obtain⟨A,c,rfl⟩:=Kd.dV HP.out;go_ret;exact⟨_,_,rfl,Kd.jQ HP.out,HB2.out⟩
end Go.Proofs.YtlhhcnknclnlaaaGreatDoor.Top
namespace Go.Proofs.YtlhhcnknclnlaaaGreatDoor.Top
open Go Go.WideShapes Go.RowKit Go.Proofs.ah.aN
theorem aV.lt{w:ab}{D:Nat->Prop}{b c room:Nat}{F:Files}(h:aV w D b room F c){k:Nat}(hk:D k):k<w.heap.size:=by
 obtain⟨m,L,g,v,s,G,h1,h2⟩:=h;exact h1.lt k hk
variable {D:Nat->Prop}{L:List Nm}{b c k m room:Nat}{g:Nm->Nat}{v:Nm->al}{w:ab}
theorem Raw.below{w':ab}{s:Nm->al}{F:Nm->List Int}(h:Raw w D b m room L g v s F)(hb:Below w.heap.size w w'):Raw w' D b m room L g v s F:=
 h.keep (S:=fun _=>False) (Keeps.of_below hb) fun _ _=>id
theorem SN{v:al}{n at_:Nat}{l:List Int}{q:cJ}{e:cX}{base:Nat}(h:w.ownsRow base e 1 v n (nums q l))(hk:at_+k<=n)(h0:0<k):
 ∃g cap,v=.slice (some ⟨g,0,none⟩) n cap∧n<=cap∧Kd.C (Kd.int q) w (some ⟨g,at_,none⟩) k ((l.drop at_).take k):=by
 have hl:l.length=n:=by have:=h.1;simpa[nums]using this
 rcases h.2 with⟨_,h2⟩|⟨g,cap,cur,rfl,hg0,hg,hn,hm,hs,ht⟩
 .omega
 .refine⟨g,cap,rfl,hn,Kd.dP (d:=(0:Int)) ⟨by simp[hl];omega,by unfold maxLen at hm;omega,fun _=>⟨_,rfl,fun j hj=>?_⟩⟩⟩;have h1:cur.toList[at_+j]? =some (.int q (l.getD (at_+j) 0)):=by
   have h2:(cur.toList.take (n*1))[at_+j]? =(nums q l)[at_+j]? :=by rw[ht]
   rw[eR,if_pos (by omega)]at h2;rw[h2];simp[nums,aE (show at_+j<l.length by omega)]
  have h3:((l.drop at_).take k).getD j 0=l.getD (at_+j) 0:=by
   simp[ao,hj]
  rw[h3];have e:(⟨g,at_,none⟩:fl).add j=⟨g,at_+j,none⟩:=by unfold Addr.add;split<;>simp_all
  rw[e];simpa[World.cell?,hg]using h1
variable {F:Files}
theorem Jk(h:aV w D b room F c)(s:ByteArray)(hs:s.size<=maxLen){l:List Int}(hx:F (nm s)=some l){at_:Nat}(h0:0<k)(hk:at_+k<=l.length):
 dj af 73 #[.pointer (some ⟨b,0,none⟩),.string s,.int .i64 at_,.int .i64 k] w fun e w'=>∃A c',e=.returned (.tuple #[.slice A k c',.int .i64 0])∧w'.ownsRow w.heap.size 5 1 (.slice A k c') k (nums .u8 ((l.drop at_).take k))∧aV w' D b room F c∧Stp D D w w':=by
 obtain⟨m,L,g,v,sy,G,R,hc,hF⟩:=h;obtain⟨nQ,rfl⟩:=aV.in_ hF hx;obtain⟨n,kv,hst⟩:=R.st;have R1:=R.op hst;obtain⟨a1,a2,a3,a4⟩:=R1.file _ nQ;obtain⟨g3,cp,hv,hcp,hC⟩:=SN a2 hk h0;have c0:=a1.cell 0 rfl;rw[hv]at c0;have hsz:(G (nm s)).length<100000000:=by
  have:=wT (G (nm s)).length;have:=gU nQ G;have:=R.le;have:=R.rm.1;omega
 have hl:(((G (nm s)).drop at_).take k).length=k:=by simp;omega
 have hcl:=Eb (c0:=cp-at_) (by rw[hl];exact hC) (by omega) (by omega);rw[hl]at hcl;have HH:=Y4 R1 hc hF (R.keeps n);generalize hN:(G (nm s)).length=N at*;have i1:¬((at_:Int)<0):=by omega
 have i2:¬((k:Int)<0):=by omega
 have i3:¬((at_:Int)>N):=by omega
 have i4:¬((k:Int)>(N:Int)-at_):=by omega
 clear hc hF hx R1 hC a1 a2 a3 a4 hv hl hN;go_enter func73,ntmps73
 go_wp2_with (first|(go_at_call 70;refine(Ac hst R.map hs (mQ nQ)).mono ?_;rintro e w' ⟨rfl,rfl⟩))
 refine hcl.mono ?_;rintro e w' ⟨A,c',rfl,ho,hb⟩;obtain⟨R1,hc,hF,hkk⟩:=HH.out;have HO:=Y5 ho (R1.below hb) hc hF (hkk.trans ⟨(Keeps.of_below (S:=D) hb),fun _ h=>.inl h⟩);clear R1 hc hF hkk ho hb
 go_wp2
 obtain⟨ho,R1,hc,hF,hkk⟩:=HO.out;refine bodyPost_ret (results_tmp2 rfl _ _ _) rfl ⟨_,_,rfl,?_,⟨_,_,_,_,_,_,R1,hc,hF⟩,hkk⟩;simpa[uS]using ho
theorem Jl(h:aV w D b room F c)(s:ByteArray)(hs:s.size<=maxLen){l:List Int}(hx:F (nm s)=some l):
 dj af 217 #[.pointer (some ⟨b,0,none⟩),.string s] w fun e w'=>e=.returned (.int .i64 0)∧aV w' D b room F c∧Stp D D w w':=by
 obtain⟨m,L,g,v,sy,G,R,hc,hF⟩:=h;obtain⟨nQ,rfl⟩:=aV.in_ hF hx;obtain⟨n,kv,hst⟩:=R.st;have R1:=R.op hst;obtain⟨a1,a2,a3,a4⟩:=R1.file _ nQ;obtain⟨A,cp,hv⟩:=aW a2;have c0:=a1.cell 0 rfl;rw[hv]at c0;have hsz:(G (nm s)).length<100000000:=by
  have:=wT (G (nm s)).length;have:=gU nQ G;have:=R.le;have:=R.rm.1;omega
 have hcl:=Eb (w:=uS w b n) (A0:=A) (c0:=cp) (l0:=G (nm s)) (Kd.dP (d:=(0:Int)) (by rw[hv]at a2;exact gD a2)) (by rw[hv]at a2;exact wR a2) (by omega);have HH:=Y5 R1 (rU hst) hc hF (R.keeps n);generalize hN:(G (nm s)).length=N at*;clear hc hF hx R1 a1 a2 a3 a4 hv hN;go_enter func217,ntmps217
 go_wp2_with (first|(go_at_call 70;refine(Ac hst R.map hs (mQ nQ)).mono ?_;rintro e w' ⟨rfl,rfl⟩))
 refine hcl.mono ?_;rintro e w' ⟨A',c',rfl,ho,hb⟩;obtain⟨R1,h1,hc,hF,hkk⟩:=HH.out;have R2:=R1.below hb;have h2:=h1.keep (S:=fun _=>False) (Keeps.of_below hb) id;obtain⟨a1,a2,a3,a4⟩:=R2.file _ nQ;have f1:=a1.frozen 1;have e1:=a1.cell 1 rfl;have HO:=Y5 R2 hc hF (hkk.trans ⟨(Keeps.of_below (S:=D) hb),fun _ h=>.inl h⟩) h2;clear R1 R2 h1 h2 hc hF hkk ho hb a1 a2 a3 a4 hcl HH c0
 go_wp2
 obtain⟨R2,hc,hF,hkk,h2⟩:=HO.out;obtain⟨a1,a2,a3,a4⟩:=R2.file _ nQ;go_ret;have n1:∀i,i≠g (nm s)->(w'.setCell ⟨g (nm s),1,none⟩ (.slice A' N c')).heap[i]? =w'.heap[i]? :=fun i hi=>aw _ _ _ _ hi
 have R3:=R2.change (w2:=w'.setCell ⟨g (nm s),1,none⟩ (.slice A' N c')) (D':=D) (v':=v (nm s)) (l':=G (nm s)) nQ (by rw[<-gU nQ];exact h2.other (h2.ne a1 (by decide)) _) (by rw[<-gU nQ];exact R2.le) (R2.map.move (n1 _ (R2.map.ne a1))) (fun k _ h _ _=>n1 k h) (a1.set 1 _) (fq a2 fun k hk=>n1 k (a1.own_ne a2 (by decide) k hk)) a4 (fun _ h=>h) (fun k hk=>by simpa using R2.lt k hk) (fun y hy hyx k hk=>(R2.inj y _ hy nQ hyx).2 k hk);rw[uR rfl,uR (f:=G) rfl]at R3;exact⟨rfl,⟨_,_,_,_,_,_,R3,hc,hF⟩,hkk.trans ⟨(Keeps.refl D w').setCell (.inl a3) _,fun _ h=>.inl h⟩⟩
variable {x:ByteArray}
theorem Ol{s:Nm->al}{F:Nm->List Int}(R:Raw w D b m room L g v s F)(hs:x.size<=maxLen)(hx:nm x∉L):
 dj af 71 #[.pointer (some ⟨b,0,none⟩),.string x] w fun e w'=>e=.returned (.tuple #[])∧w'=w:=by
 obtain⟨n,kv,hst⟩:=R.st;have d0:=hst.cell 0 rfl;have hl:=R.map.look l8 eh (Ca _) (DV x hs);rw[n_ hx]at hl;simp only[Option.getD_none]at hl;clear R hst;go_enter func71,ntmps71
 go_wp2
 go_end0
 exact⟨rfl,rfl⟩
theorem Om{s:Nm->al}{F:Nm->List Int}(R:Raw w D b m room L g v s F)(hs:x.size<=maxLen):
 dj af 71 #[.pointer (some ⟨b,0,none⟩),.string x] w fun e w'=>e=.returned (.tuple #[])∧Raw w' D b m room (L.erase (nm x)) g v s F∧Stp D D w w':=by
 by_cases hx:nm x∈L
 .exact Jg R hs hx
 .refine(Ol R hs hx).mono ?_;rintro e w' ⟨rfl,rfl⟩;rw[ez hx];exact⟨rfl,R,Stp.refl _ _⟩
theorem Ak(h:aV w D b room F c)(s t:ByteArray)(hs:s.size<=maxLen)(h0:0<t.size)(R4:t.size<=24)(hnm:nm s≠nm t){l:List Int}(hx:F (nm s)=some l)(hc0:c<1000000):
 dj af 219 #[.pointer (some ⟨b,0,none⟩),.string s,.string t] w fun e w'=>e=.returned (.int .i64 0)∧∃c',aV w' D b room (upd (upd F (nm s) none) (nm t) (some l)) c'∧c'<=c∧Stp D D w w':=by
 obtain⟨m,L,g,v,sy,G,R,hc,hF⟩:=h;obtain⟨nQ,rfl⟩:=aV.in_ hF hx;obtain⟨n,kv,hst⟩:=R.st;have R1:=R.op hst;have hts:t.size<=maxLen:=by unfold maxLen;omega
 have HH:=Y4 hc hF hx (R.keeps n);clear hc hF hx;have hlt:(s.toList==t.toList)=false:=beq_eq_false_iff_ne.2 fun h=>hnm (by rw[ByteArray.toList_eq,ByteArray.toList_eq]at h;exact h)
 go_enter func219,ntmps219
 go_wp2_with (first|(go_at_call 70;refine(Ac hst R.map hs (mQ nQ)).mono ?_;rintro e w' ⟨rfl,rfl⟩)|(go_at_call 234;refine(Wt h0 R4).mono ?_;rintro e w' ⟨rfl,rfl⟩))
 refine(Om R1 hts).mono ?_;rintro e w1 ⟨rfl,R2,k2⟩;have KQ:=(de hnm).2 nQ;obtain⟨n1,kv1,st1⟩:=R2.st;have d1:=st1.cell 0 rfl;obtain⟨w2,hr2,hm2,ht2⟩:=R2.map.drop l8 eh (DV s hs) 0;have g2:=ht2.grown;have st2:=st1.grown g2 fun e=>R2.map.ne st1 (bj e)
 have d2:=st2.cell 0 rfl;have hq:(L.erase (nm t)).length<maxLen:=by
  have h1:=HH.out.1;have:=eN (a:=nm t) (l:=L);unfold maxLen;omega
 obtain⟨w3,hr3,hm3,ht3⟩:=hm2.store l8 eh hq (DV t hts) trivial (ptr (g (nm s)));unfold ptr at hr3;have HF:=Y6 st1 st2 hm2 ht2 hm3 ht3;have HR2:=Y1 R2;clear R1 st1 st2 hm2 ht2 hm3 ht3 g2 R2
 go_wp2
 obtain⟨st1,st2,hm2,ht2,hm3,ht3⟩:=HF.out;obtain⟨hc,hF,hx,k1⟩:=HH.out;have R2:=HR2.out;have g2:=ht2.grown;have g3:=ht3.grown;have mb:=R2.map.ne st1;have se:=gU KQ G;have RV:=R2.erase (w2:=w2.setCell ⟨b,2,none⟩ (.int .i64 (bZ ((L.erase (nm t)).erase (nm s)) G:Nat))) KQ (st2.set 2 _) (hm2.move (aw _ _ _ _ mb))
  (fun k h1 h2 h3=>(aw _ _ _ _ h1).trans (g2.block k h3 fun e=>h2 (bj e))) (by simpa using g2.size)
 have hno:nm t∉(L.erase (nm t)).erase (nm s):=fun h=>(R.mR.mem_erase_iff.1 (cW h)).1 rfl
 have z3:=cM g2.size g3.size;have m3:∀k,k<w1.heap.size->k≠m->w3.heap[k]? =w1.heap[k]? :=fun k h1 h2=>(g3.block k (dr h1 g2.size) fun e=>h2 (bj e)).trans (g2.block k h1 fun e=>h2 (bj e))
 obtain⟨a1,a2,a3,a4⟩:=R2.file _ KQ;have R3:=RV.insert (w2:=w3) (D':=D) (l0:=G (nm s)) (v0:=v (nm s)) (s0:=sy (nm s)) (k0:=g (nm s)) hno (by rw[<-se];exact st2.grown g3 fun e=>mb (bj e)) (by rw[<-se];exact R2.le)
  (by rwa [DU R2.mR]at hm3) (fun k h1 h2 h3=>(g3.block k (by simpa using h3) fun e=>h2 (bj e)).trans (aw _ _ _ _ h1).symm) ((m3 _ a1.lt (cE (R2.map.ne a1))).trans a1)
  (fq a2 fun k hk=>m3 k (bJ a2 k hk) (R2.map.own_ne a2 k hk)) a3 a4 (fun _ h=>h) (fun k hk=>dr (R2.lt k hk) z3) (fun y hy=>by
   have hy':=R2.mR.mem_erase_iff.1 hy;exact R2.inj y _ hy'.2 KQ hy'.1)
 go_ret;refine⟨rfl,_,⟨_,_,_,_,_,_,R3,rfl,fun y=>?_⟩,?_,(k1.trans k2).trans ⟨((Keeps.refl D w1).turned (.inl R.dm) ht2).turned (.inl R.dm) ht3,fun _ h=>.inl h⟩⟩
 .by_cases e:y=nm t
  .subst e;rw[upd_same,upd_same,if_pos (by simp)]
  .rw[aM _ _ e,aM _ _ e];by_cases e':y=nm s
   .subst e';rw[upd_same,if_neg fun h=>?_];rcases cq.1 h with h|h
    .exact e h
    .exact(R2.mR.mem_erase_iff.1 h).1 rfl
   .rw[aM _ _ e',hF];by_cases hy:y∈L
    .rw[if_pos hy,if_pos (cq.2 (.inr ((de e').2 ((de e).2 hy))))]
    .rw[if_neg hy,if_neg fun h=>?_];rcases cq.1 h with h|h
     .exact e h
     .exact hy (cW (cW h))
 .rw[wU hno,hc,<-se,aq,List.length_erase_of_mem KQ];have h1:bZ (L.erase (nm t)) G<=bZ L G:=by
   by_cases h:nm t∈L
   .have:=gU h G;omega
   .rw[ez h];exact ai _
  have h2:=eN (a:=nm t) (l:=L);have h3:=List.length_pos_of_mem KQ;omega
theorem aa3(w:ab)(room:Nat)(hr:room<=1000000):
 dj af 18 #[.int .i64 room] w fun e w'=>∃b D,e=.returned (.pointer (some ⟨b,0,none⟩))∧aV w' D b room (fun _=>none) 0∧Below w.heap.size w w'∧∀k,D k->w.heap.size<=k:=by
 have hmm:= @run_makeMap af;go_enter func18,ntmps18
 go_wp2
 go_ret;refine⟨_,fun k=>w.heap.size<=k∧k<w.heap.size+2,rfl,⟨w.heap.size,[],fun _=>0,fun _=>.slice none 0 0,fun _=>.slice none 0 0,fun _=>[],?_,rfl,fun _=>rfl⟩,((cd _ w).alloc (ai _) _).alloc (by simp) _,fun k hk=>hk.1⟩;have hN:=St.new (w.alloc (.map #[] 0)) 84 #[.map (some w.heap.size),.int .i64 room,.int .i64 0,.int .i64 0,.int .i64 0,.slice none 0 0,.int .u32 0];rw[World.size_alloc]at hN;have hm:eU ((w.alloc (.map #[] 0)).alloc (.cells #[.map (some w.heap.size),.int .i64 room,.int .i64 0,.int .i64 0,.int .i64 0,.slice none 0 0,.int .u32 0] 84 (0,0))) 9 w.heap.size 0 (rT [] fun _=>0):=by
  obtain⟨D,h1,h2,h3⟩:=(eU.made w 9).move (Below.heap_alloc (w.alloc (.map #[] 0)) (.cells #[.map (some w.heap.size),.int .i64 room,.int .i64 0,.int .i64 0,.int .i64 0,.slice none 0 0,.int .u32 0] 84 (0,0)) w.heap.size (by simp));exact⟨D,h1,h2,fun kl z=>by rw[h3];cases kl<;>rfl⟩
 exact⟨⟨0,.slice none 0 0,hN⟩,fz _,⟨hr,by omega⟩,⟨by omega,by omega⟩,⟨by omega,by omega⟩,hm,List.nodup_nil,fun x hx=>(by cases hx),fun x y hx=>(by cases hx),fun k hk=>(by have:=hk.2;simpa using this)⟩
theorem aa4(w:ab):dj af 43 #[.bool false] w fun e w'=>e=.returned (.int .u32 0)∧w'=w:=by
 go_enter func43,ntmps43
 go_wp2
 go_ret;exact⟨rfl,rfl⟩
variable {u:al}
theorem KR{a:fl}(hc:w.cell? a=some u)(hz:w.frozen? a=false):
 (callFunc 56 #[.pointer (some a),.int .u32 0]).run af w=.ok (.value (.tuple #[])) (w.setCell a (.int .u32 0)):=
 run_call_store (P:=af) func56 (by kernel_rfl) (by kernel_rfl) (by kernel_rfl) (by kernel_rfl) hc hz
theorem Oo{t:Nat}{vs:List al}(h:St w b t vs)(hu:vs[6]? =some u):
 dj af 39 #[.pointer (some ⟨b,6,none⟩),.bool false] w fun e w'=>e=.returned (.tuple #[])∧∃n,w'=(w.drewN n).setCell ⟨b,6,none⟩ (.int .u32 0):=by
 have hs:=fun j=>KR (w:=w.drewN j) (h.cell 6 hu) (h.frozen 6)
 clear h hu;go_enter func39,ntmps39
 go_wp2_with fail
 refine dG [] [0,1,2,3,4] [5] (by kernel_rfl) (fun _ _ x _ _ h=>by cases x<;>exact h) (by kernel_rfl) ?_;simp only[aJ,ag,eW,cG,cH];refine au ?_
 repeat quiet_step ((go_at_call 43;exact dg (aa4 _)))
 refine wpQuiet_nil ?_;rintro _ ⟨nq,rfl⟩
 go_wp2
 go_end0
 exact⟨rfl,nq,rfl⟩
theorem KT(h:aV w D b room F c):
 dj af 22 #[.pointer (some ⟨b,0,none⟩)] w fun e w'=>e=.returned (.tuple #[])∧aV w' D b room F c∧Stp D D w w':=by
 obtain⟨m,L,g,v,sy,G,R,hc,hF⟩:=h;obtain⟨n,kv,hst⟩:=R.st;go_enter func22,ntmps22
 go_wp2_with (go_at_call 39;refine(Oo hst rfl).mono ?_;rintro e w' ⟨rfl,j,rfl⟩)
 go_end0
 have R0:=R.drewN j;have ne:∀k,k≠b->((w.drewN j).setCell ⟨b,6,none⟩ (.int .u32 0)).heap[k]? =(w.drewN j).heap[k]? :=fun k hk=>aw _ _ _ _ hk
 refine⟨rfl,⟨m,L,g,v,sy,G,⟨⟨n,kv,(show St (w.drewN j) b 84 _ from hst).set 6 _⟩,R.le,R.rm,R.db,R.dm,R0.map.move (ne _ (R.map.ne hst)),R.mR,fun x hx=>?_,R.inj,fun k hk=>by simpa using R.lt k hk⟩,hc,hF⟩,((Keeps.refl D w).drewN j).setCell (.inl R.db) _,fun _ h=>.inl h⟩;obtain⟨a1,a2,a3,a4⟩:=R0.file _ hx;exact⟨(ne _ (a1.ne (show St (w.drewN j) b 84 _ from hst) (by decide))).trans a1,fq a2 fun k hk=>ne k ((show St (w.drewN j) b 84 _ from hst).own_ne a2 (by decide) k hk),a3,a4⟩
end Go.Proofs.YtlhhcnknclnlaaaGreatDoor.Top
namespace Go.Proofs.YtlhhcnknclnlaaaGreatDoor.Top
open Go Go.Proofs.ah.bA
section
variable {P:bk} {ops:Array an} {md:Region.Mode} {C:ab->Prop} {hs ts:List Nat} {Q:fk->cz->ab->Prop}
theorem Jm{i:Nat}{oi:an}{v:al}(hi:ops[i]? =some oi)(hsel:∀(j:Nat) (o:an) cs b,ops[j]? =some o->o.op≠.select cs b)(hQ:∀c a w,Q (.panic c) (a.put oi.dst v) w->Q (.panic c) a w)(hs1:l9 md ops hs ts=true)(hc:jA md ops ts=true)(hin:i∈hs):
 ∀(f:Nat) (l:Array Bool) (a:cz) (w:ab),uT md ops hs ts l->
  (∀j oj,ops[j]? =some oj->j≠i->l.getD j true=false->(∀e∈oj.after,Region.binds md e=true->e.on≠i)->oi.apart ops oj=true)->
  i∈Region.ready md ops l->eJ P ops C oi v a->C w->
  aK P md ops Q C ts f (l.setIfInBounds i true) (a.put oi.dst v) w->aK P md ops Q C ts (f+1) l a w:=by
 intro f
 induction f with
 |zero=>
  intro l a w _ _ hr hy hC H;refine⟨fun h=>(by rw[h]at hr;cases hr),fun j hj=>?_⟩;by_cases hji:j=i
  .subst hji;exact hy.wpOp hi hC ⟨fun _ h=>h,H⟩
  .have:=ready_mono hj hji;rw[H.1]at this;cases this
 |succ f ih=>
  intro l a w inv hfree hr hy hC H;refine⟨fun h=>(by rw[h]at hr;cases hr),fun j hj=>?_⟩;by_cases hji:j=i
  .subst hji;exact hy.wpOp hi hC ⟨fun _ h=>h,H⟩
  .have h1:=H.2 j (ready_mono hj hji);obtain⟨Wq,oj,hoj,hall⟩:=a_.1 hj;have hnot:∀e∈oj.after,Region.binds md e=true->e.on≠i:=fun e he hb heq=>by
    have h3:=hall e he hb;rw[heq,getD_both (a_.1 hr).1]at h3;cases h3
   have hjt:j∉ts:=fun h=>inv.waits hs1 hc _ i rfl hin (a_.1 hr).1 j h hj
   have h2:=wpOp_putIf hoj (hfree j oj hoj hji Wq hnot) (fun cs b=>hsel i oi cs b hi) (fun cs b=>hsel j oj cs b hoj) hQ hy h1;refine wpOp_mono (fun a' w' h3=>⟨h3.2.1,ih (l.setIfInBounds j true) a' w' (inv.set hj hjt) (fun k ok hk hki hu hno=>hfree k ok hk hki ?_ hno) (ready_mono hr (cE hji)) h3.1 (h3.2.1 hjt hC) ?_⟩) h2
   .by_cases hjk:j=k
    .subst hjk;exact Wq
    .rwa [getD_set_ne true hjk]at hu
   .rw[cC _ _ hji];exact h3.2.2
def dS(P:bk)(ops:Array an)(C:ab->Prop)(R:cz->Prop):List an->cz->Prop
 | [],a=>R a
 |o::rest,a=>if Region.wanted o (yielded ops a.tmps)then ∃v,(∀w,C w->(execOp a.eval o).run P w=.ok (.value v) w)∧dS P ops C R rest (a.put o.dst v)else dS P ops C R rest (a.put o.dst undef)
variable {a:cz}{o:an}{rest:List an}
theorem ak{R:cz->Prop}(h:∀K:cz->Prop,(∀a,dS P ops C R rest a->K a)->if Region.wanted o (yielded ops a.tmps)then ∃v,(∀w,C w->(execOp a.eval o).run P w=.ok (.value v) w)∧K (a.put o.dst v)else K (a.put o.dst undef)):dS P ops C R (o::rest) a:=
 h _ (fun _ h=>h)
theorem bD{R:cz->Prop}(h:R a):dS P ops C R [] a:=h
def dO(P:bk)(ops:Array an)(Q:fk->cz->ab->Prop)(C:ab->Prop)(R:cz->ab->Prop):List an->cz->ab->Prop
 | [],a,w=>R a w
 |o::rest,a,w=>if Region.wanted o (yielded ops a.tmps)then cA P o a w (fun a' w'=>C w'∧dO P ops Q C R rest a' w') Q else dO P ops Q C R rest (a.put o.dst undef) w
variable {w:ab}
theorem aH{R:cz->ab->Prop}(h:∀K:cz->ab->Prop,(∀a w,C w->dO P ops Q C R rest a w->K a w)->if Region.wanted o (yielded ops a.tmps)then cA P o a w K Q else K (a.put o.dst undef) w):dO P ops Q C R (o::rest) a w:=by
 unfold dO;have:=h (fun a' w'=>C w'∧dO P ops Q C R rest a' w') (fun a w h1 h2=>⟨h1,h2⟩)
 split
 .rwa [if_pos ‹_›]at this
 .rw[if_neg ‹_›]at this;exact this.2
theorem aQ{R:cz->ab->Prop}(h:R a w):dO P ops Q C R [] a w:=h
theorem mX{L:List an}{tt:List Nat}:∀(ts:List Nat) (l:Array Bool) (a:cz) (w:ab),(∀t∈ts,t∈tt∧∃o,L.toArray[t]? =some o)->
 tH md L.toArray ts l=true->wpList P L.toArray Q (aJ L ts) a w->aK P md L.toArray Q C tt ts.length l a w
 | [],l,a,w,_,hB,h=>⟨by simpa[tH]using hB,h⟩
 |t::ts,l,a,w,ht,hB,h=>by
  obtain⟨htt,o,ho⟩:=ht t (by simp);simp only[tH,aa,decide_eq_true_eq]at hB;refine⟨fun h1=>(by rw[hB.1]at h1;cases h1),fun i hi=>?_⟩;rw[hB.1]at hi;obtain rfl:i=t:=by simpa using hi
  have ho':L[i]? =some o:=by simpa using ho
  have hw:wpOp P L.toArray Q i (wpList P L.toArray Q (aJ L ts)) a w:=by
   unfold wpOp;simp only[ho];simp only[aJ,ag,ho']at h;exact h
  exact wpOp_mono (fun a' w' h'=>⟨fun hn=>absurd htt hn,mX ts _ a' w' (fun t ht'=>ht t (by simp[ht'])) hB.2 h'⟩) hw
def vP(md:Region.Mode)(ops:Array an)(ts:List Nat):List Nat->Array Bool->Bool
 | [],l=>tH md ops ts l
 |f::fs,l=>(Region.ready md ops l).contains f&&Region.free md ops l f&&vP md ops ts fs (l.setIfInBounds f true)
def qc(md:Region.Mode)(ops:Array an)(ps ts:List Nat):List Nat->Array Bool->Bool
 | [],l=>vP md ops ts ps l
 |g::gs,l=>decide (Region.ready md ops l=[g])&&qc md ops ps ts gs (l.setIfInBounds g true)
def Ec(md:Region.Mode)(ops:Array an)(gs ps ts:List Nat):List Nat->Array Bool->Bool
 | [],l=>qc md ops ps ts gs l
 |k::ks,l=>(Region.ready md ops l).contains k&&Region.free md ops l k&&Ec md ops gs ps ts ks (l.setIfInBounds k true)
theorem qd{L:List an}{R:cz->Prop}(h:cB P L.toArray R (o::rest) a):∃v,ie P L.toArray o v a∧cB P L.toArray R rest (a.put o.dst v):=by
 unfold cB at h;by_cases hw:Region.wanted o (yielded L.toArray a.tmps)=true
 .rw[if_pos hw]at h;obtain⟨v,h1,h2⟩:=h;exact⟨v,.inl ⟨hw,h1⟩,h2⟩
 .rw[if_neg hw]at h;exact⟨undef,.inr ⟨by simpa using hw,rfl⟩,h⟩
theorem tO{L:List an}(hQ:∀c a x v w,Q (.panic c) (a.put x v) w->Q (.panic c) a w)(hsel:Region.noSelect L.toArray=true)(ht:∀t∈ts,∃o,L.toArray[t]? =some o):∀(ps:List Nat) (l:Array Bool) (a:cz) (w:ab),
 vP md L.toArray ts ps l=true->cB P L.toArray (fun a'=>wpList P L.toArray Q (aJ L ts) a' w) (aJ L ps) a->aK P md L.toArray Q C ts (ps.length+ts.length) l a w
 | [],l,a,w,hB,h=>by
  rw[ba,bt];exact mX ts l a w (fun t h=>⟨h,ht t h⟩) (by simpa[vP]using hB) h
 |f::ps,l,a,w,hB,h=>by
  simp only[vP,aa]at hB;have hr:f∈Region.ready md L.toArray l:=by simpa using hB.1.1
  obtain⟨_,o,h0,_⟩:=a_.1 hr;have h0':L[f]? =some o:=by simpa using h0
  simp only[aJ,ag,h0']at h;obtain⟨v,hy,hK⟩:=qd h;rw[aq,show ps.length+1+ts.length=ps.length+ts.length+1 by omega];exact g_ h0 (Region.noSelect_spec hsel) (fun c a w=>hQ c a _ v w) _ _ _ _ (Region.free_spec h0 hB.1.2) hr hy (tO hQ hsel ht ps _ _ w hB.2 hK)
theorem jV{L:List an}{ps:List Nat}(hQ:∀c a x v w,Q (.panic c) (a.put x v) w->Q (.panic c) a w)(hsel:Region.noSelect L.toArray=true)(ht:∀t∈ts,∃o,L.toArray[t]? =some o):∀(gs:List Nat) (l:Array Bool) (a:cz) (w:ab),C w->(∀t∈gs,∃o,L.toArray[t]? =some o)->
 qc md L.toArray ps ts gs l=true->dO P L.toArray Q C (fun a w=>cB P L.toArray (fun a'=>wpList P L.toArray Q (aJ L ts) a' w) (aJ L ps) a) (aJ L gs) a w->aK P md L.toArray Q C ts (gs.length+(ps.length+ts.length)) l a w
 | [],l,a,w,_,_,hB,h=>by
  rw[ba,bt];exact tO hQ hsel ht ps l a w (by simpa[qc]using hB) h
 |t::gs,l,a,w,hC,hg,hB,h=>by
  obtain⟨o,ho⟩:=hg t (by simp);simp only[qc,aa,decide_eq_true_eq]at hB;rw[aq,show gs.length+1+(ps.length+ts.length)=gs.length+(ps.length+ts.length)+1 by omega];refine⟨fun h1=>(by rw[hB.1]at h1;cases h1),fun i hi=>?_⟩;rw[hB.1]at hi;obtain rfl:i=t:=by simpa using hi
  have ho':L[i]? =some o:=by simpa using ho
  simp only[aJ,ag,ho',dO]at h;unfold wpOp;simp only[ho]
  split
  .rename_i hw
   rw[if_pos hw]at h;exact .inl (gR (fun a' w' h'=>⟨fun _ _=>h'.1,jV hQ hsel ht gs _ a' w' h'.1 (fun t ht'=>hg t (by simp[ht'])) hB.2 h'.2⟩) h)
  .rename_i hw
   rw[if_neg hw]at h;exact⟨fun _ h=>h,jV hQ hsel ht gs _ _ w hC (fun t ht'=>hg t (by simp[ht'])) hB.2 h⟩
theorem Oq{L:List an}{gs ps:List Nat}(hQ:∀c a x v w,Q (.panic c) (a.put x v) w->Q (.panic c) a w)(hsel:Region.noSelect L.toArray=true)(hs1:l9 md L.toArray hs ts=true)(hc:jA md L.toArray ts=true)(hgt:∀t∈gs++ts,∃o,L.toArray[t]? =some o):
 ∀(ks:List Nat) (l:Array Bool) (a:cz) (w:ab),C w->(∀k∈ks,k∈hs)->uT md L.toArray hs ts l->Ec md L.toArray gs ps ts ks l=true->
 dS P L.toArray C (fun a'=>∀w',C w'->dO P L.toArray Q C (fun a w=>cB P L.toArray (fun a'=>wpList P L.toArray Q (aJ L ts) a' w) (aJ L ps) a) (aJ L gs) a' w') (aJ L ks) a->aK P md L.toArray Q C ts (ks.length+(gs.length+(ps.length+ts.length))) l a w
 | [],l,a,w,hC,_,_,hB,h=>by
  rw[ba,bt];exact jV hQ hsel (fun t ht=>hgt t (by simp[ht])) gs l a w hC (fun t ht=>hgt t (by simp[ht])) (by simpa[Ec]using hB) (h w hC)
 |k::ks,l,a,w,hC,hk,inv,hB,h=>by
  simp only[Ec,aa]at hB;have hr:k∈Region.ready md L.toArray l:=by simpa using hB.1.1
  obtain⟨_,o,h0,_⟩:=a_.1 hr;have h0':L[k]? =some o:=by simpa using h0
  simp only[aJ,ag,h0',dS]at h;have key:∃v,eJ P L.toArray C o v a∧dS P L.toArray C (fun a'=>∀w',C w'->dO P L.toArray Q C (fun a w=>cB P L.toArray (fun a'=>wpList P L.toArray Q (aJ L ts) a' w) (aJ L ps) a) (aJ L gs) a' w') (aJ L ks) (a.put o.dst v):=by
   by_cases hw:Region.wanted o (yielded L.toArray a.tmps)=true
   .rw[if_pos hw]at h;obtain⟨v,h1,h2⟩:=h;exact⟨v,.inl ⟨hw,h1⟩,h2⟩
   .rw[if_neg hw]at h;exact⟨undef,.inr ⟨by simpa using hw,rfl⟩,h⟩
  obtain⟨v,hy,hK⟩:=key;have hkn:=hk k (by simp);have hkt:=(tF hs1 hkn).1;rw[aq,show ks.length+1+(gs.length+(ps.length+ts.length))=ks.length+(gs.length+(ps.length+ts.length))+1 by omega];exact Jm h0 (Region.noSelect_spec hsel) (fun c a w=>hQ c a _ v w) hs1 hc hkn _ l a w inv (Region.free_spec h0 hB.1.2) hr hy hC
   (Oq hQ hsel hs1 hc hgt ks _ _ w hC (fun j hj=>hk j (by simp[hj])) (inv.set hr hkt) hB.2 hK)
def KU(md:Region.Mode)(ops:Array an)(rs gs ps ts:List Nat):List Nat->Array Bool->Bool
 | [],l=>(l.size==ops.size)&&(ts.all fun t=> !l.getD t true)&&((az ops.size).all fun i=>l.getD i true||(rs++(gs++ps)).contains i||ts.contains i)&&Ec md ops gs ps ts rs l
 |f::fs,l=>(Region.ready md ops l).contains f&&Region.free md ops l f&&KU md ops rs gs ps ts fs (l.setIfInBounds f true)
theorem Gz{L:List an}{rs gs ps:List Nat}(hQ:∀c a x v w,Q (.panic c) (a.put x v) w->Q (.panic c) a w)(hsel:Region.noSelect L.toArray=true)(hs1:l9 md L.toArray (rs++(gs++ps)) ts=true)(hc:jA md L.toArray ts=true)(hgt:∀t∈gs++ts,∃o,L.toArray[t]? =some o):
 ∀(fs:List Nat) (l:Array Bool) (a:cz) (w:ab),C w->iN md L.toArray l->KU md L.toArray rs gs ps ts fs l=true->
 cB P L.toArray (dS P L.toArray C (fun a'=>∀w',C w'->dO P L.toArray Q C (fun a w=>cB P L.toArray (fun a'=>wpList P L.toArray Q (aJ L ts) a' w) (aJ L ps) a) (aJ L gs) a' w') (aJ L rs)) (aJ L fs) a->aK P md L.toArray Q C ts (fs.length+(rs.length+(gs.length+(ps.length+ts.length)))) l a w
 | [],l,a,w,hC,hsh,hB,h=>by
  simp only[KU,aa,beq_iff_eq]at hB;obtain⟨⟨⟨h1,h2⟩,h3⟩,h5⟩:=hB;have inv:uT md L.toArray (rs++(gs++ps)) ts l:=⟨h1,hsh,fun t ht=>by simpa using ax.1 h2 t ht,fun i hi hu=>by
   have:=ax.1 h3 i (bb.2 hi);rw[hu]at this;simpa[or_assoc]using this⟩
  rw[ba,bt];exact Oq hQ hsel hs1 hc hgt rs l a w hC (fun k hk=>by simp[hk]) inv h5 h
 |f::fs,l,a,w,hC,hsh,hB,h=>by
  simp only[KU,aa]at hB;have hr:f∈Region.ready md L.toArray l:=by simpa using hB.1.1
  obtain⟨_,o,h0,_⟩:=a_.1 hr;have h0':L[f]? =some o:=by simpa using h0
  simp only[aJ,ag,h0',cB]at h;rw[aq,show fs.length+1+(rs.length+(gs.length+(ps.length+ts.length)))=fs.length+(rs.length+(gs.length+(ps.length+ts.length)))+1 by omega];have key:∃v,ie P L.toArray o v a∧cB P L.toArray (dS P L.toArray C (fun a'=>∀w',C w'->dO P L.toArray Q C (fun a w=>cB P L.toArray (fun a'=>wpList P L.toArray Q (aJ L ts) a' w) (aJ L ps) a) (aJ L gs) a' w') (aJ L rs)) (aJ L fs) (a.put o.dst v):=by
   by_cases hw:Region.wanted o (yielded L.toArray a.tmps)=true
   .rw[if_pos hw]at h;obtain⟨v,h1,h2⟩:=h;exact⟨v,.inl ⟨hw,h1⟩,h2⟩
   .rw[if_neg hw]at h;exact⟨undef,.inr ⟨by simpa using hw,rfl⟩,h⟩
  obtain⟨v,hy,hK⟩:=key;exact g_ h0 (Region.noSelect_spec hsel) (fun c a w=>hQ c a _ v w) _ _ _ _ (Region.free_spec h0 hB.1.2) hr hy (Gz hQ hsel hs1 hc hgt fs _ _ w hC (hsh.set hr) hB.2 hK)
theorem gF{id:Nat}{l:List an}(C:ab->Prop)(fs rs gs ps ts:List Nat)(hm:P.follows .mixedOrders=true)(hQ:∀c a x v w,Q (.panic c) (a.put x v) w->Q (.panic c) a w)(hC:C w.drew)(hB:(Region.noSelect l.toArray&&l9 .any l.toArray (rs++(gs++ps)) ts&&jA .any l.toArray ts&&decide (fs.length+(rs.length+(gs.length+(ps.length+ts.length)))=l.length)&&((gs++ts).all fun t=>decide (t<l.length))&&KU .any l.toArray rs gs ps ts fs (cF l.length false))=true)(h:cB P l.toArray (dS P l.toArray C (fun a'=>∀w',C w'->dO P l.toArray Q C (fun a w=>cB P l.toArray (fun a'=>wpList P l.toArray Q (aJ l ts) a' w) (aJ l ps) a) (aJ l gs) a' w') (aJ l rs)) (aJ l fs) a):(dE id l.toArray true).wp P Q a w:=by
 simp only[aa,decide_eq_true_eq]at hB;obtain⟨⟨⟨⟨⟨h1,h2⟩,h3⟩,h4⟩,h6⟩,h5⟩:=hB;refine fI (S:=C) (ds:=ts) hm ?_;have:=Gz (P:=P) (md:=.any) hQ h1 h2 h3 (fun t ht=>by
  have:=ax.1 h6 t ht;exact⟨_,dy (by simpa using this)⟩) fs _ a w.drew hC (fun j oj _ hl=>by rw[getD_replicate_false]at hl;cases hl) h5 h
 rw[h4]at this;simpa using this
end
end Go.Proofs.YtlhhcnknclnlaaaGreatDoor.Top
namespace Go.Proofs.YtlhhcnknclnlaaaGreatDoor.Oct
open Go.RowKit Go.Proofs.ah.aN Go.Proofs.ah.bA Go.Proofs.ah.dx
variable {x:Int}
theorem dW(h0: -9223372036854775808<=x)(h1:x<=9223372036854775807):wrap64 x=x:=by unfold wrap64;omega
theorem u64_in{x:Int}(h0:0<=x)(h1:x<18446744073709551616):IntKind.u64.wrap x=x:=IntWalk.u64_in _ (by omega)
theorem KV(a b:Nat)(ha:a<18446744073709551616)(hb:b<18446744073709551616):bits .or .u64 (a:Int) b=((a ||| b:Nat):Int):=
 (bits_nat .u64 64 (ai _) (fun n h0 h1=>u64_in h0 (by simpa using h1)) a b ha hb).2
theorem u32_in(h0:0<=x)(h1:x<4294967296):ib.wrap x=x:=by rw[IntKind.wrap_u32];omega
theorem r_(a b:Nat)(ha:a<4294967296)(hb:b<4294967296):bits .and .u32 (a:Int) b=((a &&& b:Nat):Int):=
 (bits_nat .u32 32 (ai _) (fun n h0 h1=>u32_in h0 (by simpa using h1)) a b ha hb).1
theorem oJ(a b:Nat)(ha:a<4294967296)(hb:b<4294967296):bits .xor .u32 (a:Int) b=((a ^^^ b:Nat):Int):=by
 have e:bits .xor .u32 (a:Int) b=ib.wrap (((BitVec.ofInt 32 (a:Int) ^^^ BitVec.ofInt 32 (b:Int)).toNat:Nat):Int):=rfl;rw[e,BitVec.toNat_xor,BitVec.ofInt_natCast,BitVec.ofInt_natCast,BitVec.toNat_ofNat,BitVec.toNat_ofNat,fv ha,fv hb];have:=du (n:=32) ha hb;exact u32_in (by omega) (by omega)
theorem xU(a:Nat)(ha:a<4294967296):bits .xor .u32 (-1) (a:Int)=((a ^^^ 4294967295:Nat):Int):=by
 have e:bits .xor .u32 (-1) (a:Int)=bits .xor .u32 ((4294967295:Nat):Int) a:=rfl;rw[e,oJ _ _ (by omega) ha,Nat.xor_comm]
def le:Nat->Int->List Int
 |0,_=>[]
 |m+1,x=>x%256::le m (x/256)
def num:List Int->Int
 | []=>0
 |c::r=>c+256*num r
def Bytes(l:List Int):Prop:=∀c∈l,0<=c∧c<=255
theorem Bytes.append{a b:List Int}(ha:Bytes a)(hb:Bytes b):Bytes (a++b):=fun c hc=>(List.mem_append.1 hc).elim (ha c) (hb c)
theorem Bytes.take{a:List Int}(ha:Bytes a)(n:Nat):Bytes (a.take n):=fun c hc=>ha c (List.mem_of_mem_take hc)
theorem Bytes.drop{a:List Int}(ha:Bytes a)(n:Nat):Bytes (a.drop n):=fun c hc=>ha c (List.mem_of_mem_drop hc)
theorem Bytes.nil:Bytes []:=fun c hc=>by cases hc
theorem Bytes.cons{c:Int}{l:List Int}(h:0<=c∧c<=255)(hl:Bytes l):Bytes (c::l):=fun d hd=>by
 rcases cq.1 hd with rfl|hd
 .exact h
 .exact hl d hd
theorem bB(m:Nat):∀x,(le m x).length=m:=by
 induction m with
 |zero=>intro x;rfl
 |succ m ih=>intro x;simp[le,ih]
theorem iO(m:Nat):∀x,Bytes (le m x):=by
 induction m with
 |zero=>intro x;exact Bytes.nil
 |succ m ih=>intro x;exact Bytes.cons (by omega) (ih _)
theorem le_succ(m:Nat):∀x,le (m+1) x=le m x++[x/256^m%256]:=by
 induction m with
 |zero=>intro x;simp[le]
 |succ m ih=>
  intro x;rw[le,ih,le];simp only[List.cons_append];rw[Int.ediv_ediv_of_nonneg (by omega),Int.pow_succ,Int.mul_comm (256^m) 256]
theorem num_nonneg{l:List Int}(h:Bytes l):0<=num l:=by
 induction l with
 |nil=>simp[num]
 |cons c r ih=>have:=h c (by simp);have:=ih (fun d hd=>h d (by simp[hd]));simp only[num];omega
theorem GA{l:List Int}(h:Bytes l):num l<256^l.length:=by
 induction l with
 |nil=>simp[num]
 |cons c r ih=>
  have h1:=h c (by simp);have h2:=ih (fun d hd=>h d (by simp[hd]));simp only[num,aq,Int.pow_succ];omega
theorem sj(m:Nat):∀x,num (le m x)=x%256^m:=by
 induction m with
 |zero=>intro x;simp[le,num]
 |succ m ih=>
  intro x;rw[le,num,ih,Int.pow_succ,Int.mul_comm (256^m) 256];have hp:(0:Int)<256^m:=Int.pow_pos (by omega);have h1:=Int.emod_add_mul_ediv x 256;have h2:=Int.emod_add_mul_ediv (x/256) (256^m);have h3:=Int.emod_nonneg (x/256) (show(256:Int)^m≠0 by omega);have h4:=Int.emod_lt_of_pos (x/256) hp;have e:x=(x%256+256*((x/256)%256^m))+(256*256^m)*(x/256/256^m):=by
   rw[Int.mul_assoc];omega
  conv=>rhs;rw[e]
  rw[Int.add_mul_emod_self_left];exact(Int.emod_eq_of_lt (by omega) (by omega)).symm
def st(c:Nat):Nat:=if c%2=1 then(c/2) ^^^ 3988292384 else c/2
def zy:Nat->Nat->Nat
 |0,c=>c
 |m+1,c=>zy m (st c)
def cr(l:List Int)(c:Nat):Nat:=l.foldl (fun c x=>zy 8 (c ^^^ x.toNat)) c
theorem Wx{c:Nat}(h:c<4294967296):st c<4294967296:=by
 unfold st
 split
 .exact du (n:=32) (by omega) (by omega)
 .omega
theorem Ot(m:Nat):∀{c:Nat},c<4294967296->zy m c<4294967296:=by
 induction m with
 |zero=>intro c h;exact h
 |succ m ih=>intro c h;exact ih (Wx h)
theorem Ch{a b:Nat}(ha:a<4294967296)(hb:b<4294967296):a ^^^ b<4294967296:=du (n:=32) ha hb
theorem aa5(l:List Int):∀c,c<4294967296->Bytes l->cr l c<4294967296:=by
 induction l with
 |nil=>intro c h _;exact h
 |cons x r ih=>
  intro c h hb;have:=hb x (by simp);exact ih _ (Ot 8 (Ch h (by omega))) (fun d hd=>hb d (by simp[hd]))
def crc(l:List Int):Nat:=cr l 4294967295 ^^^ 4294967295
theorem Ou{l:List Int}(h:Bytes l):crc l<4294967296:=Ch (aa5 l _ (by omega) h) (by omega)
end Go.Proofs.YtlhhcnknclnlaaaGreatDoor.Oct
namespace Go.Proofs.ah.aN
open Go.RowKit
namespace Kd
section
variable {α:Type} {d:Kd α} {e base n m:Nat} {ok:Nat->Prop} {w w':ab} {v:al} {A:Option fl} {xs:List α}
theorem Am{g:Nat}(hd:∀{W W':ab} {x:α} {cs:List al},d.K W x cs->d.K W' x cs)(h:d.C w A n xs)(hf:∀ad,A=some ad->0<n->ad.block≠g):∀W',qF w W' g none->d.C W' A n xs:=by
 intro W' hk;refine⟨h.1,h.2.1,fun hn=>?_⟩;obtain⟨ad,he,hc⟩:=h.2.2 hn;refine⟨ad,he,fun j p hj=>?_⟩;obtain⟨cs,h1,h2,h3⟩:=hc j p hj;exact⟨cs,h1,hd h2,fun i u hu=>KI hk (h3 i u hu) (by rw[add_block];exact hf ad he hn)⟩
end
end Kd
section
variable {P:bk} {d:Nat} {xs ys:Array al} {f:Field} {fs:List Field} {a b:al} {r s:Bool} {w:ab}
theorem Ov(hn:(f.name== "_")=false)(ha:(part f.type xs f.offset).run P w=.ok a w)(hb:(part f.type ys f.offset).run P w=.ok b w)(he:(fS d f.type a b).run P w=.ok r w):(df d xs ys [f]).run P w=.ok r w:=by
 have hn':f.name≠ "_" :=by simpa using hn
 simp only[df,if_pos hn',eo,ha,hb,he,cU];cases r<;>simp
theorem Ow(hn:(f.name== "_")=false)(ha:(part f.type xs f.offset).run P w=.ok a w)(hb:(part f.type ys f.offset).run P w=.ok b w)(he:(fS d f.type a b).run P w=.ok r w)(hr:(df d xs ys fs).run P w=.ok s w):(df d xs ys (f::fs)).run P w=.ok (r&&s) w:=by
 have hn':f.name≠ "_" :=by simpa using hn
 rw[df];simp only[if_pos hn',eo,ha,hb,he,cU];cases r
 .simp
 .simpa using hr
theorem X4{t:cX}{fs:Array Field}(hu:P.underlying t=some (.struct fs))(hp:P.stoodInHeld t=false)(h:(df d xs ys fs.toList).run P w=.ok r w):(fS (d+1) t (.agg xs) (.agg ys)).run P w=.ok r w:=by
 have hf:P.fieldsOf t=fs:=by simp[Program.fieldsOf,hu]
 rw[run_equalIn_struct (P:=P) w d t xs ys (by rw[hf];exact hu) hp,hf];exact h
end
end Go.Proofs.ah.aN
namespace Go.Proofs.ah.aN
theorem gZ.one{α:Type}{R:α->List al->Prop}{ps:List α}{cs:List al}{p:α}{v:al}(hp:R p [v])(h:gZ R 1 ps cs):gZ R 1 (p::ps) (v::cs):=by
 refine⟨by simp[h.1],fun j q hq=>?_⟩;cases j with
 |zero=>
  simp only[cH,ik]at hq;subst hq;simpa using hp
 |succ j=>
  simp only[cG]at hq;have h1:=h.2 j q hq;simpa[Nat.mul_one]using h1
end Go.Proofs.ah.aN
namespace Go.Proofs.ah.aN
open Go.RowKit
section
variable {P:bk} {ops:Array an} {rest:List an} {o:an} {a:cz} {Q:fk->cz->ab->Prop} {W:ab}
theorem GH(hw:Region.wanted o (yielded ops a.tmps)=true)(h:wpList P ops Q ({o with guard:=none}::rest) a W):wpList P ops Q (o::rest) a W:=by
 have h1:Region.wanted {o with guard:=none} (yielded ops a.tmps)=true:=rfl;unfold wpList at h⊢;rw[if_pos h1]at h;rw[if_pos hw];exact h
end
end Go.Proofs.ah.aN
namespace Go.Proofs.YtlhhcnknclnlaaaGreatDoor.Top
section
variable {α:Type} (lt:α->α->Bool) (d:α)
structure Ord (lt:α->α->Bool):Prop where
 irrefl:∀x,lt x x=false
 trans:∀x y z,lt x y=true->lt y z=true->lt x z=true
 ntrans:∀x y z,lt x y=false->lt y z=false->lt x z=false
variable {lt d}
theorem Ord.le_of_lt(o:Ord lt){x y:α}(h:lt x y=true):lt y x=false:=by
 cases h':lt y x with
 |false=>rfl
 |true=>have:=o.trans x y x h h';rw[o.irrefl]at this;cases this
variable (lt d)
def HP(l:List α):Prop:=∀j,0<j->j<l.length->lt (l.getD j d) (l.getD ((j-1)/2) d)=false
variable {lt d}
theorem dL(l:List α)(i j:Nat)(x d:α)(hi:i<l.length):(l.set i x).getD j d=if i=j then x else l.getD j d:=by
 simp only[ao,List.getElem?_set]
 split
 .simp
 .rfl
theorem set_perm:∀(l:List α) (i:Nat) (x d:α),i<l.length->(l.getD i d::l.set i x).Perm (x::l)
 |y::l,0,x,d,_=>cy _ _ _
 |y::l,i+1,x,d,h=>by
  have ih:=set_perm l i x d (by simpa using h);have:((y::l).getD (i+1) d)=l.getD i d:=by simp
  rw[this];exact(cy _ _ _).trans ((ih.cons y).trans (cy _ _ _))
theorem swap_perm(m:List α)(i k:Nat)(x d:α)(hi:i<m.length)(hk:k<m.length)(hne:i≠k):((m.set i (m.getD k d)).set k x).Perm (m.set i x):=by
 have h1:=set_perm m i x d hi;have h2:=set_perm m i (m.getD k d) d hi;have h3:=set_perm (m.set i (m.getD k d)) k x d (by simpa using hk);rw[dL _ _ _ _ _ hi,if_neg hne]at h3;have h4:=
  (h3.cons _).trans ((cy _ _ _).trans ((h2.cons x).trans ((cy _ _ _).trans ((h1.symm.cons _).trans (cy _ _ _)))))
 exact(fW _).1 ((fW _).1 h4)
variable (lt d)
structure Up (l:List α) (x:α) (m:List α) (i:Nat):Prop where
 len:m.length=l.length+1
 bd:i<m.length
 perm:(m.set i x).Perm (x::l)
 hp:∀j,0<j->j<m.length->j≠i->lt ((m.set i x).getD j d) ((m.set i x).getD ((j-1)/2) d)=false
 gp:0<i->∀j,0<j->j<m.length->(j-1)/2=i->lt (m.getD j d) (m.getD ((i-1)/2) d)=false
variable {lt d}
theorem Ox{l:List α}(h:HP lt d l)(x y:α):Up lt d l x (l++[y]) l.length:=by
 have e:(l++[y]).set l.length x=l++[x]:=by rw[List.set_append_right _ _ (ai _)];simp
 have g:∀(z:α) j,j<l.length->(l++[z]).getD j d=l.getD j d:=fun z j hj=>by
  simp only[ao];rw[dC hj]
 refine⟨by simp,by simp,?_,fun j h0 hj hne=>?_,fun h0 j h1 h2 h3=>?_⟩
 .rw[e];exact List.perm_append_singleton _ _
 .simp at hj;rw[e,g x j (by omega),g x _ (by omega)];exact h j h0 (by omega)
 .simp at h2;omega
variable {i:Nat}{m:List α}{x:α}
theorem SQ(o:Ord lt){l:List α}(h:Up lt d l x m i)(hi:0<i)(hlt:lt x (m.getD ((i-1)/2) d)=true):Up lt d l x (m.set i (m.getD ((i-1)/2) d)) ((i-1)/2):=by
 have hil:=h.bd;have hpl:(i-1)/2<m.length:=by omega
 have hne:i≠(i-1)/2:=by omega
 have hml:(i-1)/2<(m.set i (m.getD ((i-1)/2) d)).length:=by simpa using hpl
 have V:∀j,((m.set i (m.getD ((i-1)/2) d)).set ((i-1)/2) x).getD j d=if(i-1)/2=j then x else if i=j then m.getD ((i-1)/2) d else m.getD j d:=fun j=>by
  rw[dL _ _ _ _ _ hml,dL _ _ _ _ _ hil]
 have W:∀j,(m.set i x).getD j d=if i=j then x else m.getD j d:=fun j=>dL _ _ _ _ _ hil
 refine⟨by simp[h.len],hml,(swap_perm m i _ x d hil hpl hne).trans h.perm,fun j h0 hj hji=>?_,fun h0 j h1 h2 h3=>?_⟩
 .simp only[cm]at hj;rw[V,V,if_neg (cE hji)];by_cases e1:i=j
  .subst e1;rw[if_pos rfl,if_pos rfl];exact o.le_of_lt hlt
  .rw[if_neg e1];by_cases e2:(i-1)/2=(j-1)/2
   .rw[if_pos e2];have:=h.hp j h0 hj (cE e1);rw[W,W,if_neg e1,if_neg (by omega),<-e2]at this;exact o.ntrans _ _ _ this (o.le_of_lt hlt)
   .rw[if_neg e2];by_cases e3:i=(j-1)/2
    .rw[if_pos e3];exact h.gp hi j h0 hj e3.symm
    .rw[if_neg e3];have:=h.hp j h0 hj (cE e1);rw[W,W,if_neg e1,if_neg e3]at this;exact this
 .simp only[cm]at h2;rw[dL _ _ _ _ _ hil,dL _ _ _ _ _ hil,if_neg (by omega:¬i=((i-1)/2-1)/2)];have hpp:=h.hp ((i-1)/2) h0 hpl (cE hne);rw[W,W,if_neg hne,if_neg (by omega)]at hpp;by_cases e1:i=j
  .rw[if_pos e1];exact hpp
  .rw[if_neg e1];have:=h.hp j h1 h2 (cE e1);rw[W,W,if_neg e1,h3,if_neg hne]at this;exact o.ntrans _ _ _ this hpp
theorem X5{l:List α}(h:Up lt d l x m i)(hi:0<i->lt x (m.getD ((i-1)/2) d)=false):HP lt d (m.set i x)∧(m.set i x).Perm (x::l):=by
 refine⟨fun j h0 hj=>?_,h.perm⟩;simp only[cm]at hj;by_cases e:j=i
 .subst e;rw[dL _ _ _ _ _ h.bd,dL _ _ _ _ _ h.bd,if_pos rfl,if_neg (by omega)];exact hi h0
 .exact h.hp j h0 hj e
variable (lt d)
structure Dn (l:List α) (x:α) (m:List α) (i:Nat):Prop where
 bd:i<m.length
 perm:(m.set i x).Perm l
 hp:∀j,0<j->j<m.length->(j-1)/2≠i->lt ((m.set i x).getD j d) ((m.set i x).getD ((j-1)/2) d)=false
 gp:0<i->∀j,0<j->j<m.length->(j-1)/2=i->lt (m.getD j d) (m.getD ((i-1)/2) d)=false
variable {lt d}
variable {m:List α}{x:α}
theorem Oy(h:HP lt d (m++[x]))(hm:0<m.length):Dn lt d (m.set 0 x) x m 0:=by
 refine⟨hm,List.Perm.refl _,fun j h0 hj hne=>?_,fun h=>absurd h (by omega)⟩;have g:∀j,j<m.length->(m++[x]).getD j d=m.getD j d:=fun j hj=>by
  simp only[ao];rw[dC hj]
 have:=h j h0 (by simp;omega);rw[g _ hj,g _ (by omega)]at this;rw[dL _ _ _ _ _ hm,dL _ _ _ _ _ hm,if_neg (by omega),if_neg (by omega)];exact this
def Wy(m:List α)(i k:Nat):Prop:=k<m.length∧0<k∧(k-1)/2=i∧∀j,0<j->j<m.length->(j-1)/2=i->lt (m.getD j d) (m.getD k d)=false
variable {i k:Nat}
theorem SS(o:Ord lt){l:List α}(h:Dn lt d l x m i)(hk:Wy (lt:=lt) (d:=d) m i k)(hlt:lt (m.getD k d) x=true):Dn lt d l x (m.set i (m.getD k d)) k:=by
 obtain⟨hkl,h0k,hki,X6⟩:=hk;have hil:=h.bd;have hne:i≠k:=by omega
 have hml:k<(m.set i (m.getD k d)).length:=by simpa using hkl
 have V:∀j,((m.set i (m.getD k d)).set k x).getD j d=if k=j then x else if i=j then m.getD k d else m.getD j d:=fun j=>by
  rw[dL _ _ _ _ _ hml,dL _ _ _ _ _ hil]
 have W:∀j,(m.set i x).getD j d=if i=j then x else m.getD j d:=fun j=>dL _ _ _ _ _ hil
 refine⟨hml,(swap_perm m i k x d hil hkl hne).trans h.perm,fun j h0 hj hji=>?_,fun _ j h1 h2 h3=>?_⟩
 .simp only[cm]at hj;rw[V,V,if_neg (cE hji)];by_cases e1:k=j
  .subst e1;rw[if_pos rfl,if_pos hki.symm];exact o.le_of_lt hlt
  .rw[if_neg e1];by_cases e2:i=(j-1)/2
   .rw[if_pos e2,if_neg (by omega:¬i=j)];exact X6 j h0 hj e2.symm
   .rw[if_neg e2];by_cases e3:i=j
    .subst e3;rw[if_pos rfl];exact h.gp h0 k h0k hkl hki
    .rw[if_neg e3];have:=h.hp j h0 hj (cE e2);rw[W,W,if_neg e3,if_neg e2]at this;exact this
 .simp only[cm]at h2;rw[dL _ _ _ _ _ hil,dL _ _ _ _ _ hil,if_neg (by omega),hki,if_pos rfl];have:=h.hp j h1 h2 (by omega);rw[W,W,if_neg (by omega),h3,if_neg (by omega)]at this;exact this
theorem X7{l:List α}(h:Dn lt d l x m i)(hi:∀j,0<j->j<m.length->(j-1)/2=i->lt (m.getD j d) x=false):HP lt d (m.set i x)∧(m.set i x).Perm l:=by
 refine⟨fun j h0 hj=>?_,h.perm⟩;simp only[cm]at hj;by_cases e:(j-1)/2=i
 .rw[dL _ _ _ _ _ h.bd,dL _ _ _ _ _ h.bd,if_neg (by omega),if_pos e.symm];exact hi j h0 hj e
 .exact h.hp j h0 hj e
theorem Jo(o:Ord lt)(h1:2*i+1<m.length)(h:2*i+2<m.length->lt (m.getD (2*i+2) d) (m.getD (2*i+1) d)=false):Wy (lt:=lt) (d:=d) m i (2*i+1):=by
 refine⟨h1,by omega,by omega,fun j h2 h3 h4=>?_⟩;by_cases e:j=2*i+1
 .subst e;exact o.irrefl _
 .obtain rfl:j=2*i+2:=by omega
  exact h h3
theorem SV(o:Ord lt)(h1:2*i+2<m.length)(h:lt (m.getD (2*i+2) d) (m.getD (2*i+1) d)=true):Wy (lt:=lt) (d:=d) m i (2*i+2):=by
 refine⟨h1,by omega,by omega,fun j h2 h3 h4=>?_⟩;by_cases e:j=2*i+1
 .subst e;exact o.le_of_lt h
 .obtain rfl:j=2*i+2:=by omega
  exact o.irrefl _
theorem X8(o:Ord lt)(hk:Wy (lt:=lt) (d:=d) m i k)(h:lt (m.getD k d) x=false):∀j,0<j->j<m.length->(j-1)/2=i->lt (m.getD j d) x=false:=
 fun j h1 h2 h3=>o.ntrans _ _ _ (hk.2.2.2 j h1 h2 h3) h
theorem Oz(o:Ord lt){l:List α}(h:HP lt d l):∀j,j<l.length->lt (l.getD j d) (l.getD 0 d)=false:=by
 intro j
 induction j using Nat.strongRecOn with
 |ind j ih=>
  intro hj;by_cases h0:j=0
  .subst h0;exact o.irrefl _
  .exact o.ntrans _ _ _ (h j (by omega) hj) (ih ((j-1)/2) (by omega) (by omega))
end
end Go.Proofs.YtlhhcnknclnlaaaGreatDoor.Top
namespace Go.Proofs.YtlhhcnknclnlaaaGreatDoor.Top
open Go
theorem own_base'{w:ab}{base base' e size n:Nat}{v:al}{xs:List al}(h:w.ownsRow base e size v n xs)(hb:base'<=base):w.ownsRow base' e size v n xs:=by
 refine⟨h.1,?_⟩;rcases h.2 with h|⟨g,cap,cur,h1,h2,h3⟩
 .exact .inl h
 .exact .inr ⟨g,cap,cur,h1,cM hb h2,h3⟩
theorem iB{P:bk}(w:ab)(base:Nat)(t ty e:cX)(i:TypeInfo)(z:al)(size bytes:Nat)(ht:P.underlying t=some (.slice e))(hi:P.info? e=some i)(hz:i.zero=some z)(hsize:i.size=size)(hby:i.bytes=bytes)(hzs:z.cells.size=size)(hsz:0<size)(v:al)(n:Nat)(xs:List al)(hown:w.ownsRow base e size v n xs)(a:fl)(m c:Nat)(news:List al)(hl:news.length=m*size)(hnews:∀j u,news[j]? =some u->w.cell? (a.add j)=some u)(h1:∀u∈news,u.oneCell'=true)(h63:n+m<=maxLen)(hbytes:(n+m)*bytes<=140737488355328)(hbase:base<=w.heap.size):
 ∃v' w',(ar #[t,t] ty #[v,.slice (some a) m c]).run P w=.ok v' w'∧w'.ownsRow base e size v' (n+m) (xs++news)∧w.grownBy w' v.ownBlock∧
  ∀k,v'.ownBlock=some k->v.ownBlock=some k∨w.heap.size<=k:=by
 obtain⟨v',w',hr,h2,h3,_⟩:=run_append_own (P:=P) w base t ty e i z size bytes ht hi hz hsize hby hzs hsz v n xs hown a m c news hl hnews h1 h63 hbytes hbase;refine⟨v',w',hr,h2,h3,fun k hk=>?_⟩;rcases hown.2 with⟨rfl,rfl⟩|⟨g,cap,cur,rfl,hbg,hg,hnc,hcm,hcs,htake⟩
 .have hx:=ca (by simpa using hown.1);subst hx;obtain⟨v2,w2,hr2,h22,_⟩:=run_append_own (P:=P) w w.heap.size t ty e i z size bytes ht hi hz hsize hby hzs hsz (.slice none 0 0) 0 [] (World.ownsRow_nil w _ e size) a m c news hl hnews h1 h63 hbytes (ai _);rw[hr]at hr2;injection hr2 with e1 e2;subst e1;exact .inr (h22.lt k hk).1
 .subst hsize;by_cases hroom:n+m<=cap
  .have hfit:n*i.size+news.length<=cur.size:=by rw[hl,hcs,<-eK];exact c_ _ hroom
   rw[run_append_room (P:=P) w t ty e i ht hi g n cap cur hg a m c news hl hnews h1 hroom hfit]at hr;injection hr with e1 e2;subst e1;exact .inl hk
  .have holds:=hown.cells (g:=g) rfl;subst hby
   have hsmall:n+m<=9223372036854775807:=by simp only[maxLen]at h63;omega
   rw[run_append_grow (P:=P) w t ty e i z ht hi hz ⟨g,0,none⟩ n cap xs hown.1 holds a m c news hl hnews (by omega) (by omega) (growslice_fits (by omega) hbytes)]at hr;injection hr with e1 e2;subst e1;right;simp[bz]at hk;omega
end Go.Proofs.YtlhhcnknclnlaaaGreatDoor.Top
namespace Go.Proofs.YtlhhcnknclnlaaaGreatDoor.Top
section
variable {α:Type}
theorem xV(p q:α->Bool):∀l:List α,(∀x∈l,p x=true->q x=true)->l.countP p<=l.countP q
 | [],_=>ai _
 |x::l,h=>by
  have ih:=xV p q l fun y hy=>h y (by simp[hy])
  have hx:=h x (by simp);simp only[fw];by_cases hp:p x=true
  .simp[hp,hx hp];omega
  .simp[hp];omega
theorem xW(p q:α->Bool):∀l:List α,(∀x∈l,p x=true->q x=true)->(∃x∈l,q x=true∧p x=false)->l.countP p<l.countP q
 | [],_,h=>by obtain⟨x,hx,_⟩:=h;cases hx
 |y::l,h,⟨x,hx,h1,h2⟩=>by
  have hm:=xV p q l fun z hz=>h z (by simp[hz])
  simp only[fw];rcases cq.1 hx with rfl|hx
  .simp[h1,h2];omega
  .have ih:=xW p q l (fun z hz=>h z (by simp[hz])) ⟨x,hx,h1,h2⟩;have hy:=h y (by simp);by_cases hp:p y=true
   .simp[hp,hy hp];omega
   .simp[hp];omega
end
abbrev zH:Type:=List (Nat×Nat)
def Closed(E:zH)(g:Nat->Nat):Prop:=(∀v,g v<=v)∧∀e∈E,g e.2<=g e.1
open Classical in
noncomputable def most (p:Nat->Prop):Nat->Nat
 |0=>0
 |k+1=>if p (k+1)then k+1 else most p k
theorem ah8(p:Nat->Prop):∀k,most p k<=k
 |0=>ai _
 |k+1=>by
  unfold most
  split
  .exact ai _
  .exact fi (ah8 p k)
theorem aif(p:Nat->Prop)(h0:p 0):∀k,p (most p k)
 |0=>h0
 |k+1=>by
  unfold most
  split
  .assumption
  .exact aif p h0 k
theorem aii(p:Nat->Prop):∀k i,i<=k->p i->i<=most p k
 |0,i,h,_=>by omega
 |k+1,i,h,hp=>by
  unfold most
  split
  .exact h
  .rename_i hn
   exact aii p k i (by rcases ek i (k+1)with h|h;(· omega);exact absurd (show p (k+1) by rwa [show k+1=i by omega]) hn) hp
noncomputable def grt(E:zH)(v:Nat):Nat:=most (fun k=>∃g,Closed E g∧g v=k) v
variable {E:zH}
theorem aia{g:Nat->Nat}(h:Closed E g)(v:Nat):g v<=grt E v:=aii _ v _ (h.1 v) ⟨g,h,rfl⟩
theorem ah5(E:zH):Closed E (grt E):=by
 refine⟨fun v=>ah8 _ _,fun e he=>?_⟩;obtain⟨g,hg,h⟩:=aif (fun k=>∃g,Closed E g∧g e.2=k) ⟨fun _=>0,⟨fun _=>fz _,fun _ _=>ai _⟩,rfl⟩ e.2;have:g e.2=grt E e.2:=h;rw[<-this];exact cM (hg.2 e he) (aia hg _)
variable {n:Nat}
theorem ail(hE:∀e∈E,e.1<n∧e.2<n){x:Nat->Nat}(hx:∀v,v<n->grt E v<=x v∧x v<=v)(hn:∃v,v<n∧x v≠grt E v):
 ∃e∈E,x e.1=grt E e.1∧x e.2≠grt E e.2∧grt E e.1=grt E e.2:=by
 refine Classical.byContradiction fun hc=>?_
 have hc':∀e∈E,x e.1=grt E e.1->x e.2≠grt E e.2->grt E e.1≠grt E e.2:=fun e he h1 h2 h3=>hc ⟨e,he,h1,h2,h3⟩
 obtain⟨v,hv,hne⟩:=hn;have hG:=ah5 E;have hg:Closed E fun u=>if u<n∧x u≠grt E u then grt E u+1 else grt E u:=by
  refine⟨fun u=>?_,fun e he=>?_⟩
  .by_cases h:u<n∧x u≠grt E u
   .have h1:=hx u h.1;have h2:grt E u+1<=u:=by omega
    simpa only[if_pos h]using h2
   .simpa only[if_neg h]using hG.1 u
  .have h1:=hE e he;have h2:=hG.2 e he;by_cases ha:x e.1=grt E e.1
   .by_cases hb:x e.2=grt E e.2
    .simp[ha,hb,h2]
    .have:=hc' e he ha hb;simp[ha,hb,h1];omega
   .by_cases hb:x e.2=grt E e.2
    .simp[ha,hb,h1];omega
    .simp[ha,hb,h1];omega
 have:=aia hg v;simp[hv,hne]at this;omega
theorem ah_(hE:∀e∈E,e.1<n∧e.2<n)(x:Nat->Nat->Nat)(m:Nat)(h0:∀v,v<n->x 0 v<=v)(hge:∀j,j<=m->∀v,v<n->grt E v<=x j v)(hle:∀j,j<m->∀v,v<n->x (j+1) v<=x j v)(hp:∀j,j<m->∀e∈E,x j e.1=grt E e.1->grt E e.1=grt E e.2->x (j+1) e.2<=grt E e.2)(hm:n<=m):∀v,v<n->x m v=grt E v:=by
 have hid:∀j,j<=m->∀v,v<n->x j v<=v:=by
  intro j
  induction j with
  |zero=>intro _;exact h0
  |succ j ih=>intro hj v hv;exact cM (hle j (by omega) v hv) (ih (by omega) v hv)
 have hc:∀j,j<=m->min n j<=(az n).countP fun v=>decide (x j v=grt E v):=by
  intro j
  induction j with
  |zero=>intro _;omega
  |succ j ih=>
   intro hj;have ih:=ih (by omega);have hmono:∀v∈az n,decide (x j v=grt E v)=true->decide (x (j+1) v=grt E v)=true:=by
    intro v hv h;have hv:=bb.1 hv;have h1:=hle j (by omega) v hv;have h2:=hge (j+1) hj v hv;simp only[decide_eq_true_eq]at h⊢;omega
   by_cases hall:∃v,v<n∧x j v≠grt E v
   .obtain⟨e,he,h1,h2,h3⟩:=ail hE (fun v hv=>⟨hge j (by omega) v hv,hid j (by omega) v hv⟩) hall;have hv:=(hE e he).2;have h4:=hp j (by omega) e he h1 h3;have h5:=hge (j+1) hj e.2 hv;have:=xW _ _ (az n) hmono ⟨e.2,bb.2 hv,by simp;omega,by simpa using h2⟩;omega
   .have hm:=xV _ _ (az n) hmono;have:(az n).countP (fun v=>decide (x j v=grt E v))=n:=by
     have h:=eI (p:=fun v=>decide (x j v=grt E v)) (l:=az n);rw[List.length_range]at h;exact h.2 fun v hv=>by
      simp only[decide_eq_true_eq];exact Classical.byContradiction fun h=>hall ⟨v,bb.1 hv,h⟩
    omega
 intro v hv;have h:=hc m (ai _);rw[ey hm]at h;have h1:(az n).countP (fun v=>decide (x m v=grt E v))=(az n).length:=Nat.le_antisymm List.countP_le_length (by simpa using h);have:=eI.1 h1 v (bb.2 hv);simpa using this
noncomputable def nT(E:zH)(j:Nat)(d:Nat->Option Nat)(v:Nat):Option Nat:=
 open Classical in match d v with
 |some a=>some a
 |none=>if ∃e∈E,e.2=v∧d e.1=some j then some (j+1)else none
noncomputable def far(E:zH)(s:Nat):Nat->Nat->Option Nat
 |0,v=>if v=s then some 0 else none
 |j+1,v=>nT E j (far E s j) v
theorem om{s j v a:Nat}(h:far E s j v=some a):far E s (j+1) v=some a:=by
 show nT E j (far E s j) v=_;unfold nT;rw[h]
theorem uY{E:zH}{s:Nat}:∀j v a,far E s j v=some a->a<=j
 |0,v,a,h=>by
  unfold far at h
  split at h
  .cases h;exact ai _
  .cases h
 |j+1,v,a,h=>by
  have h:nT E j (far E s j) v=some a:=h;unfold nT at h;cases hd:far E s j v with
  |some b=>
   rw[hd]at h;cases h;exact fi (uY j v _ hd)
  |none=>
   rw[hd]at h;simp only at h
   split at h
   .cases h;exact ai _
   .cases h
end Go.Proofs.YtlhhcnknclnlaaaGreatDoor.Top
namespace Go.Proofs.YtlhhcnknclnlaaaGreatDoor.RgI
open Go.RowKit Go.Proofs.ah.aN Go.Proofs.ah.bA
section
variable {P:bk} {ops:Array an} {Q:fk->cz->ab->Prop} {md:Region.Mode}
variable {K:cz->ab->Prop}{a:cz}{n:Nat}{w:ab}
theorem SX{l:Nat}{o:an}(hd:∀c:Call,o.op≠.defer c)(h:o.wp P a w K Q):o.wpIn (ew.inRound l) n P a w K Q:=by
 refine⟨fun f _=>trivial,?_⟩;unfold cA at h;rw[show(ew.inRound l).round=some l from rfl,Oper.semAt_some l _ o hd];generalize (execOp a.eval o).run P w=r at*;cases r with
 |ok x w'=>
  cases x<;>simp only[il,ic]at h⊢
  case value=>exact h
  case skip=>exact h
  case defer=>exact h
  case enter f args=>exact⟨(fun hh=>by cases hh),CallsIn.inRound l (callsIn_wide.2 h)⟩
  case row row args=>
   refine⟨(fun hh=>by cases hh),fun c cs _=>?_⟩;obtain⟨v,w2,h1,h2⟩:=h c cs;exact⟨v,w2,h1,stepsIn_wide.2 h2⟩
 |halt x w'=>cases x<;>simp only[il,ic]at h⊢ <;>exact h
theorem aa6{l i:Nat}{K':cz->ab->Prop}(hL:¬LetsOut Q)(hd:∀(o:an) (c:Call),ops[i]? =some o->o.op≠.defer c)(hK:∀a w,K a w->K' a w)(h:wpOp P ops Q i K a w):wpOpIn (ew.inRound l) n P ops Q i K' a w:=by
 unfold wpOp at h;unfold wpOpIn;cases ho:ops[i]? with
 |none=>rw[ho]at h;exact hK _ _ h
 |some o=>
  rw[ho]at h;dsimp only at h⊢
  split
  .rename_i hw
   rw[if_pos hw]at h;rcases h with h|h
   .exact Oper.wpIn_mono hK (SX (fun c=>hd o c ho) h)
   .exact absurd h.2 hL
  .rename_i hw
   rw[if_neg hw]at h;exact⟨fun _ _=>trivial,hK _ _ h⟩
theorem OB{l n:Nat}(hL:¬LetsOut Q)(hd:∀(i:Nat) (o:an) (c:Call),ops[i]? =some o->o.op≠.defer c):∀(fuel:Nat) (listed:Array Bool) (a:cz) (w:ab),wpAny P md ops Q fuel listed a w->wpAnyIn (ew.inRound l) n P md ops Q fuel listed a w
 |0,_,_,_,h=>h
 |fuel+1,_,_,_,h=>⟨h.1,fun i hi=>aa6 hL (hd i) (fun a w=>OB hL hd fuel _ a w) (h.2 i hi)⟩
theorem Aq{l id:Nat}{S:ab->Prop}{ds:List Nat}(hL:¬LetsOut Q)(hd:∀(i:Nat) (o:an) (c:Call),ops[i]? =some o->o.op≠.defer c)(hm:P.follows .mixedOrders=true)(hS:S w.drew)(h:S w.drew->aK P .any ops Q S ds ops.size (cF ops.size false) a w.drew):(dE id ops true).wpIn (ew.inRound l) n P Q a w:=
 wpIn_region_any hm (OB hL hd _ _ _ _ (nR _ _ _ _ (h hS)))
end
end Go.Proofs.YtlhhcnknclnlaaaGreatDoor.RgI
namespace Go.Proofs.YtlhhcnknclnlaaaGreatDoor.Top
open Go Go.Proofs.ah.bA
section
variable {P:bk} {md:Region.Mode} {C:ab->Prop} {ts D:List Nat} {Q:fk->cz->ab->Prop}
theorem OC{L:List an}(hQ:∀c a x v w,Q (.panic c) (a.put x v) w->Q (.panic c) a w)(hsel:Region.noSelect L.toArray=true)(ht:∀t∈ts,t∈D∧∃o,L.toArray[t]? =some o):∀(ps:List Nat) (l:Array Bool) (a:cz) (w:ab),
 vP md L.toArray ts ps l=true->cB P L.toArray (fun a'=>wpList P L.toArray Q (aJ L ts) a' w) (aJ L ps) a->aK P md L.toArray Q C D (ps.length+ts.length) l a w
 | [],l,a,w,hB,h=>by
  rw[ba,bt];exact mX ts l a w ht (by simpa[vP]using hB) h
 |f::ps,l,a,w,hB,h=>by
  simp only[vP,aa]at hB;have hr:f∈Region.ready md L.toArray l:=by simpa using hB.1.1
  obtain⟨_,o,h0,_⟩:=a_.1 hr;have h0':L[f]? =some o:=by simpa using h0
  simp only[aJ,ag,h0']at h;obtain⟨v,hy,hK⟩:=qd h;rw[aq,show ps.length+1+ts.length=ps.length+ts.length+1 by omega];exact g_ h0 (Region.noSelect_spec hsel) (fun c a w=>hQ c a _ v w) _ _ _ _ (Region.free_spec h0 hB.1.2) hr hy (OC hQ hsel ht ps _ _ w hB.2 hK)
theorem GI{L:List an}{ps:List Nat}(hQ:∀c a x v w,Q (.panic c) (a.put x v) w->Q (.panic c) a w)(hsel:Region.noSelect L.toArray=true)(ht:∀t∈ts,t∈D∧∃o,L.toArray[t]? =some o):∀(gs:List Nat) (l:Array Bool) (a:cz) (w:ab),(∀t∈gs,t∈D∧∃o,L.toArray[t]? =some o)->
 qc md L.toArray ps ts gs l=true->dO P L.toArray Q (fun _=>True) (fun a w=>cB P L.toArray (fun a'=>wpList P L.toArray Q (aJ L ts) a' w) (aJ L ps) a) (aJ L gs) a w->aK P md L.toArray Q C D (gs.length+(ps.length+ts.length)) l a w
 | [],l,a,w,_,hB,h=>by
  rw[ba,bt];exact OC hQ hsel ht ps l a w (by simpa[qc]using hB) h
 |t::gs,l,a,w,hg,hB,h=>by
  obtain⟨hd,o,ho⟩:=hg t (by simp);simp only[qc,aa,decide_eq_true_eq]at hB;rw[aq,show gs.length+1+(ps.length+ts.length)=gs.length+(ps.length+ts.length)+1 by omega];refine⟨fun h1=>(by rw[hB.1]at h1;cases h1),fun i hi=>?_⟩;rw[hB.1]at hi;obtain rfl:i=t:=by simpa using hi
  have ho':L[i]? =some o:=by simpa using ho
  simp only[aJ,ag,ho',dO]at h;unfold wpOp;simp only[ho]
  split
  .rename_i hw
   rw[if_pos hw]at h;exact .inl (gR (fun a' w' h'=>⟨fun hn=>absurd hd hn,GI hQ hsel ht gs _ a' w' (fun t ht'=>hg t (by simp[ht'])) hB.2 h'.2⟩) h)
  .rename_i hw
   rw[if_neg hw]at h;exact⟨fun _ h=>h,GI hQ hsel ht gs _ _ w (fun t ht'=>hg t (by simp[ht'])) hB.2 h⟩
def Ef(md:Region.Mode)(ops:Array an)(N:Nat)(gs ps ts:List Nat):List Nat->Array Bool->Bool
 | [],l=>qc md ops ps ts gs l
 |k::ks,l=>(Region.ready md ops l).contains k&&Region.free md ops l k&&((gs++ts).all fun d=>Region.jS md ops k N d)&&Ef md ops N gs ps ts ks (l.setIfInBounds k true)
theorem OD{L:List an}{N:Nat}{gs ps:List Nat}(hQ:∀c a x v w,Q (.panic c) (a.put x v) w->Q (.panic c) a w)(hsel:Region.noSelect L.toArray=true)(hgt:∀t∈gs++ts,∃o,L.toArray[t]? =some o):
 ∀(ks:List Nat) (l:Array Bool) (a:cz) (w:ab),C w->iN md L.toArray l->Ef md L.toArray N gs ps ts ks l=true->
 dS P L.toArray C (fun a'=>∀w',C w'->dO P L.toArray Q (fun _=>True) (fun a w=>cB P L.toArray (fun a'=>wpList P L.toArray Q (aJ L ts) a' w) (aJ L ps) a) (aJ L gs) a' w') (aJ L ks) a->aK P md L.toArray Q C (gs++ts) (ks.length+(gs.length+(ps.length+ts.length))) l a w
 | [],l,a,w,hC,_,hB,h=>by
  rw[ba,bt];exact GI hQ hsel (fun t ht=>⟨by simp[ht],hgt t (by simp[ht])⟩) gs l a w (fun t ht=>⟨by simp[ht],hgt t (by simp[ht])⟩) (by simpa[Ef]using hB) (h w hC)
 |k::ks,l,a,w,hC,hsh,hB,h=>by
  simp only[Ef,aa]at hB;have hr:k∈Region.ready md L.toArray l:=by simpa using hB.1.1.1
  obtain⟨_,o,h0,_⟩:=a_.1 hr;have h0':L[k]? =some o:=by simpa using h0
  simp only[aJ,ag,h0',dS]at h;have key:∃v,eJ P L.toArray C o v a∧dS P L.toArray C (fun a'=>∀w',C w'->dO P L.toArray Q (fun _=>True) (fun a w=>cB P L.toArray (fun a'=>wpList P L.toArray Q (aJ L ts) a' w) (aJ L ps) a) (aJ L gs) a' w') (aJ L ks) (a.put o.dst v):=by
   by_cases hw:Region.wanted o (yielded L.toArray a.tmps)=true
   .rw[if_pos hw]at h;obtain⟨v,h1,h2⟩:=h;exact⟨v,.inl ⟨hw,h1⟩,h2⟩
   .rw[if_neg hw]at h;exact⟨undef,.inr ⟨by simpa using hw,rfl⟩,h⟩
  obtain⟨v,hy,hK⟩:=key;rw[aq,show ks.length+1+(gs.length+(ps.length+ts.length))=ks.length+(gs.length+(ps.length+ts.length))+1 by omega];exact jH h0 (Region.noSelect_spec hsel) (fun c a w=>hQ c a _ v w) N _ l a w (Region.free_spec h0 hB.1.1.2) hsh (fun d hd _=>ax.1 hB.1.2 d hd) hr hy hC (OD hQ hsel hgt ks _ _ w hC (iN.set hsh hr) hB.2 hK)
def OE(md:Region.Mode)(ops:Array an)(N:Nat)(rs gs ps ts:List Nat):List Nat->Array Bool->Bool
 | [],l=>Ef md ops N gs ps ts rs l
 |f::fs,l=>(Region.ready md ops l).contains f&&Region.free md ops l f&&OE md ops N rs gs ps ts fs (l.setIfInBounds f true)
theorem WA{L:List an}{N:Nat}{rs gs ps:List Nat}(hQ:∀c a x v w,Q (.panic c) (a.put x v) w->Q (.panic c) a w)(hsel:Region.noSelect L.toArray=true)(hgt:∀t∈gs++ts,∃o,L.toArray[t]? =some o):
 ∀(fs:List Nat) (l:Array Bool) (a:cz) (w:ab),C w->iN md L.toArray l->OE md L.toArray N rs gs ps ts fs l=true->
 cB P L.toArray (dS P L.toArray C (fun a'=>∀w',C w'->dO P L.toArray Q (fun _=>True) (fun a w=>cB P L.toArray (fun a'=>wpList P L.toArray Q (aJ L ts) a' w) (aJ L ps) a) (aJ L gs) a' w') (aJ L rs)) (aJ L fs) a->aK P md L.toArray Q C (gs++ts) (fs.length+(rs.length+(gs.length+(ps.length+ts.length)))) l a w
 | [],l,a,w,hC,hsh,hB,h=>by
  rw[ba,bt];exact OD hQ hsel hgt rs l a w hC hsh (by simpa[OE]using hB) h
 |f::fs,l,a,w,hC,hsh,hB,h=>by
  simp only[OE,aa]at hB;have hr:f∈Region.ready md L.toArray l:=by simpa using hB.1.1
  obtain⟨_,o,h0,_⟩:=a_.1 hr;have h0':L[f]? =some o:=by simpa using h0
  simp only[aJ,ag,h0']at h;obtain⟨v,hy,hK⟩:=qd h;rw[aq,show fs.length+1+(rs.length+(gs.length+(ps.length+ts.length)))=fs.length+(rs.length+(gs.length+(ps.length+ts.length)))+1 by omega];exact g_ h0 (Region.noSelect_spec hsel) (fun c a w=>hQ c a _ v w) _ _ _ _ (Region.free_spec h0 hB.1.2) hr hy (WA hQ hsel hgt fs _ _ w hC (hsh.set hr) hB.2 hK)
theorem gW{id:Nat}{a:cz}{w:ab}{l:List an}(C:ab->Prop)(N:Nat)(fs rs gs ps ts:List Nat)(hm:P.follows .mixedOrders=true)(hQ:∀c a x v w,Q (.panic c) (a.put x v) w->Q (.panic c) a w)(hC:C w.drew)(hB:(Region.noSelect l.toArray&&decide (fs.length+(rs.length+(gs.length+(ps.length+ts.length)))=l.length)&&((gs++ts).all fun t=>decide (t<l.length))&&OE .any l.toArray N rs gs ps ts fs (cF l.length false))=true)(h:cB P l.toArray (dS P l.toArray C (fun a'=>∀w',C w'->dO P l.toArray Q (fun _=>True) (fun a w=>cB P l.toArray (fun a'=>wpList P l.toArray Q (aJ l ts) a' w) (aJ l ps) a) (aJ l gs) a' w') (aJ l rs)) (aJ l fs) a):(dE id l.toArray true).wp P Q a w:=by
 simp only[aa,decide_eq_true_eq]at hB;obtain⟨⟨⟨h1,h4⟩,h6⟩,h5⟩:=hB;refine fI (S:=C) (ds:=gs++ts) hm ?_;have:=WA (P:=P) (md:=.any) hQ h1 (fun t ht=>by
  have:=ax.1 h6 t ht;exact⟨_,dy (by simpa using this)⟩) fs _ a w.drew hC (fun j oj _ hl=>by rw[getD_replicate_false]at hl;cases hl) h5 h
 rw[h4]at this;simpa using this
end
end Go.Proofs.YtlhhcnknclnlaaaGreatDoor.Top
