/- Parts of the proof. -/
import Derived.Test.YtlhhcnknclnlaaaGreatDoorProg
import Derived.Below
import Derived.Deep.Draws
import Derived.Deep.AppendLies
import Derived.Maps.AppendAt
import Derived.OwnWalk
import Derived.Laws.BytesArg
import Derived.Laws.MakeOwn
import Derived.Laws.OwnMore
import Derived.Deep.OwnRows
import Derived.Tactics
import Derived.Lib.ConvBytes
import Derived.Laws.Slices
import Derived.WalkKit
import Derived.KernelRfl
import Derived.RowKit3
import Derived.Deep.LoopGhost
import Derived.Deep.QuietTactic
import Derived.BigQuiet
import Derived.WideLaws
import Derived.Deep.DeepCutAuto
import Derived.Deep.CutBlock
import Derived.Deep.RegionHeld3
import Derived.Laws.Rows
import Derived.Lib.AppendStr
import Derived.ArgAppend
import Derived.Laws.IdiomCopy
import Derived.OrdersHeld
import Derived.Laws.BitsLemmas
import Derived.RowKit
import Derived.Lib.LazyBuf
import Derived.RangeFuncBox
import Derived.RangeFuncLeaves
import Derived.RangeFuncNested
import Derived.Shelf.Abstract
import Derived.OwnWalkIn
import Derived.TacticsInMore
import Derived.LoopNIn
import Derived.LoopIn
import Derived.Test.YtlhhcnknclnlaaaGreatDoorS00
import Derived.Test.YtlhhcnknclnlaaaGreatDoorS01
set_option linter.all false
set_option maxRecDepth 100000
set_option maxHeartbeats 16000000
open Option.some renaming inj->aa,injEq->ar
open Array renaming replicate->ab,getElem?_eq_getElem->cm,getD_eq_getD_getElem?->cD,replicate_succ->cF,replicate_zero->cG
open Go renaming World->ae,Oper->cC,bits->de,mem_ready->dg,Calls->di,Act->dt,Value->dv,Addr->dC,Program->eh
open Option renaming bind_eq_some_iff->af,bind_some->cd,isSome_iff_exists->cM,map_eq_some_iff->du
open Go.Proofs.Tryz renaming prog->ag,underlying40->al,func94->cI,func136->cY,ntmps94->df,underlying24->dp,ntmps136->dq,func47->dE,ntmps130->eo,func114->et,func117->ew,func128->ey,func129->ez,func130->eI,underlying5->eJ,underlying9->eK,ntmps138->eN,ntmps128->eQ,ntmps129->eR,ntmps47->eS,func138->eW,func137->fb,func93->fe
open Bool renaming and_eq_true->ai,not_eq_true'->cN,eq_false_iff->cX
open Go.IntKind renaming i64->an,u64->cq
open List renaming length_take->ao,map_toArray->aq,length_cons->ax,all_eq_true->az,map_cons->aE,map_nil->bb,getElem?_eq_getElem->bk,filterMap_cons->bt,length_nil->bz,length_drop->ca,length_append->cA,getD_eq_getElem?_getD->cH,append_toArray->cJ,size_toArray->cU,push_toArray->cW,cons_append->c_,nil_append->dd,isEmpty_eq_false_iff->dj,take_length->dr,replicate->dT,flatten_append->ek,drop_take->eM,length->fc,range->fg,take->fh
open Go.RowKit.Below renaming refl->aw
open Go.Value renaming int->a_,bool->cx,slice->ef
open Prod.mk renaming injEq->ba
open Nat renaming le_refl->bj,zero_add->cz,min_eq_left->dy
open Go.IntWalk renaming i64_in->cy
open Go.RowKit renaming Below->cE
open Go.Code renaming region->da
open Go.Proofs.Tryz
namespace Go.Proofs.YtlhhcnknclnlaaaGreatDoor.Top
open Go Go.Proofs.ah.bA
section
variable {P:eh} {md:Region.Mode} {C:ae->Prop} {ts hs:List Nat} {Q:Exit->dt->ae->Prop}
def Ci(md:Region.Mode)(ops:Array cC)(ps ts:List Nat)(f:Nat):List Nat->Array Bool->Bool
 | [],l=>qc md ops ps ts [f] l
 |g::gs,l=>(decide (Region.ready md ops l=[g,f])||decide (Region.ready md ops l=[f,g]))&&qc md ops ps ts (g::gs) (l.setIfInBounds f true)&&Ci md ops ps ts f gs (l.setIfInBounds g true)
def oK(P:eh)(ops:Array cC)(Q:Exit->dt->ae->Prop)(C:ae->Prop)(R:dt->ae->Prop)(f:cC):List cC->dt->ae->Prop
 | [],a,w=>dO P ops Q C R [f] a w
 |o::rest,a,w=>dO P ops Q C R (f::o::rest) a w∧dO P ops Q C (fun a' w'=>oK P ops Q C R f rest a' w') [o] a w
variable {L:List cC}{a:dt}{o:cC}{w:ae}
theorem qg{K:dt->ae->Prop}{i fuel:Nat}{l:Array Bool}(ho:L.toArray[i]? =some o)(hC:C w)(h:dO P L.toArray Q C K [o] a w)(hk:∀a' w',C w'->K a' w'->aK P md L.toArray Q C ts fuel (l.setIfInBounds i true) a' w'):wpOp P L.toArray Q i (fun a' w'=>(i∉ts->C w->C w')∧aK P md L.toArray Q C ts fuel (l.setIfInBounds i true) a' w') a w:=by
 simp only[dO]at h;unfold wpOp;simp only[ho]
 split
 .rename_i hw
  rw[if_pos hw]at h;exact .inl (Oper.wp_mono (fun a' w' h'=>⟨fun _ _=>h'.1,hk a' w' h'.1 h'.2⟩) h)
 .rename_i hw
  rw[if_neg hw]at h;exact⟨fun _ h=>h,hk _ w hC h⟩
theorem xX{R:dt->ae->Prop}{rest:List cC}(h:dO P L.toArray Q C R (o::rest) a w):dO P L.toArray Q C (fun a' w'=>dO P L.toArray Q C R rest a' w') [o] a w:=h
theorem rH{L:List cC}{ps:List Nat}{f:Nat}{of:cC}(hQ:∀c a x v w,Q (.panic c) (a.put x v) w->Q (.panic c) a w)(hsel:Region.noSelect L.toArray=true)(ht:∀t∈ts,∃o,L.toArray[t]? =some o)(hf:L.toArray[f]? =some of):∀(gs:List Nat) (l:Array Bool) (a:dt) (w:ae),C w->(∀t∈gs,∃o,L.toArray[t]? =some o)->
 Ci md L.toArray ps ts f gs l=true->oK P L.toArray Q C (fun a w=>cB P L.toArray (fun a'=>wpList P L.toArray Q (aJ L ts) a' w) (aJ L ps) a) of (aJ L gs) a w->aK P md L.toArray Q C ts (gs.length+1+(ps.length+ts.length)) l a w
 | [],l,a,w,hC,_,hB,h=>by
  have hf':L[f]? =some of:=by simpa using hf
  have:=jV (C:=C) (md:=md) (ps:=ps) hQ hsel ht [f] l a w hC (fun t h=>by simp at h;subst h;exact⟨_,hf⟩) hB (by simpa only[aJ,bt,hf',List.filterMap_nil,oK]using h);simpa using this
 |g::gs,l,a,w,hC,hg,hB,h=>by
  obtain⟨o,ho⟩:=hg g (by simp);have ho':L[g]? =some o:=by simpa using ho
  simp only[Ci,ai,Bool.or_eq_true,decide_eq_true_eq]at hB;obtain⟨⟨hr,hB1⟩,hB2⟩:=hB;have hp:aJ L (g::gs)=o::aJ L gs:=by simp only[aJ,bt,ho']
  rw[hp]at h;obtain⟨h1,h2⟩:=h;have one:=
   qg hf hC (xX h1) fun a' w' hC' h'=>by
    have:=jV (C:=C) (md:=md) (ps:=ps) hQ hsel ht (g::gs) (l.setIfInBounds f true) a' w' hC' hg hB1 (by rw[hp];exact h');simpa using this
  have two:=
   qg ho hC h2 fun a' w' hC' h'=>rH hQ hsel ht hf gs _ a' w' hC' (fun t ht'=>hg t (by simp[ht'])) hB2 h'
  rw[ax,show gs.length+1+1+(ps.length+ts.length)=gs.length+1+(ps.length+ts.length)+1 by omega];refine⟨fun h1=>(by rcases hr with hr|hr<;>(rw[hr]at h1;cases h1)),fun i hi=>?_⟩;have:i=g∨i=f:=by
   rcases hr with hr|hr
   .rw[hr]at hi;simpa using hi
   .rw[hr]at hi;simp at hi;exact hi.symm
  rcases this with rfl|rfl
  .exact two
  .exact one
def Eh(md:Region.Mode)(ops:Array cC)(f:Nat)(gs ps ts:List Nat):List Nat->Array Bool->Bool
 | [],l=>Ci md ops ps ts f gs l
 |k::ks,l=>(Region.ready md ops l).contains k&&Region.free md ops l k&&Eh md ops f gs ps ts ks (l.setIfInBounds k true)
theorem OG{L:List cC}{f:Nat}{of:cC}{gs ps:List Nat}(hQ:∀c a x v w,Q (.panic c) (a.put x v) w->Q (.panic c) a w)(hsel:Region.noSelect L.toArray=true)(hs1:l9 md L.toArray hs ts=true)(hc:jA md L.toArray ts=true)(hgt:∀t∈gs++ts,∃o,L.toArray[t]? =some o)(hf:L.toArray[f]? =some of):
 ∀(ks:List Nat) (l:Array Bool) (a:dt) (w:ae),C w->(∀k∈ks,k∈hs)->uT md L.toArray hs ts l->Eh md L.toArray f gs ps ts ks l=true->
 dS P L.toArray C (fun a'=>∀w',C w'->oK P L.toArray Q C (fun a w=>cB P L.toArray (fun a'=>wpList P L.toArray Q (aJ L ts) a' w) (aJ L ps) a) of (aJ L gs) a' w') (aJ L ks) a->aK P md L.toArray Q C ts (ks.length+(gs.length+1+(ps.length+ts.length))) l a w
 | [],l,a,w,hC,_,_,hB,h=>by
  rw[bz,cz];exact rH hQ hsel (fun t ht=>hgt t (by simp[ht])) hf gs l a w hC (fun t ht=>hgt t (by simp[ht])) (by simpa[Eh]using hB) (h w hC)
 |k::ks,l,a,w,hC,hk,inv,hB,h=>by
  simp only[Eh,ai]at hB;have hr:k∈Region.ready md L.toArray l:=by simpa using hB.1.1
  obtain⟨_,o,h0,_⟩:=dg.1 hr;have h0':L[k]? =some o:=by simpa using h0
  simp only[aJ,bt,h0',dS]at h;have key:∃v,YieldsIf P L.toArray C o v a∧dS P L.toArray C (fun a'=>∀w',C w'->oK P L.toArray Q C (fun a w=>cB P L.toArray (fun a'=>wpList P L.toArray Q (aJ L ts) a' w) (aJ L ps) a) of (aJ L gs) a' w') (aJ L ks) (a.put o.dst v):=by
   by_cases hw:Region.wanted o (yielded L.toArray a.tmps)=true
   .rw[if_pos hw]at h;obtain⟨v,h1,h2⟩:=h;exact⟨v,.inl ⟨hw,h1⟩,h2⟩
   .rw[if_neg hw]at h;exact⟨undef,.inr ⟨by simpa using hw,rfl⟩,h⟩
  obtain⟨v,hy,hK⟩:=key;have hkn:=hk k (by simp);have hkt:=(tF hs1 hkn).1;rw[ax,show ks.length+1+(gs.length+1+(ps.length+ts.length))=ks.length+(gs.length+1+(ps.length+ts.length))+1 by omega];exact Jm h0 (Region.noSelect_spec hsel) (fun c a w=>hQ c a _ v w) hs1 hc hkn _ l a w inv (Region.free_spec h0 hB.1.2) hr hy hC
   (OG hQ hsel hs1 hc hgt hf ks _ _ w hC (fun j hj=>hk j (by simp[hj])) (inv.set hr hkt) hB.2 hK)
def OH(md:Region.Mode)(ops:Array cC)(rs:List Nat)(f:Nat)(gs ps ts:List Nat):List Nat->Array Bool->Bool
 | [],l=>(l.size==ops.size)&&(ts.all fun t=> !l.getD t true)&&((fg ops.size).all fun i=>l.getD i true||(rs++(f::gs++ps)).contains i||ts.contains i)&&Eh md ops f gs ps ts rs l
 |k::fs,l=>(Region.ready md ops l).contains k&&Region.free md ops l k&&OH md ops rs f gs ps ts fs (l.setIfInBounds k true)
theorem OI{L:List cC}{rs:List Nat}{f:Nat}{of:cC}{gs ps:List Nat}(hQ:∀c a x v w,Q (.panic c) (a.put x v) w->Q (.panic c) a w)(hsel:Region.noSelect L.toArray=true)(hs1:l9 md L.toArray (rs++(f::gs++ps)) ts=true)(hc:jA md L.toArray ts=true)(hgt:∀t∈gs++ts,∃o,L.toArray[t]? =some o)(hf:L.toArray[f]? =some of):
 ∀(fs:List Nat) (l:Array Bool) (a:dt) (w:ae),C w->iN md L.toArray l->OH md L.toArray rs f gs ps ts fs l=true->
 cB P L.toArray (dS P L.toArray C (fun a'=>∀w',C w'->oK P L.toArray Q C (fun a w=>cB P L.toArray (fun a'=>wpList P L.toArray Q (aJ L ts) a' w) (aJ L ps) a) of (aJ L gs) a' w') (aJ L rs)) (aJ L fs) a->aK P md L.toArray Q C ts (fs.length+(rs.length+(gs.length+1+(ps.length+ts.length)))) l a w
 | [],l,a,w,hC,hsh,hB,h=>by
  simp only[OH,ai,beq_iff_eq]at hB;obtain⟨⟨⟨h1,h2⟩,h3⟩,h5⟩:=hB;have inv:uT md L.toArray (rs++(f::gs++ps)) ts l:=⟨h1,hsh,fun t ht=>by simpa using az.1 h2 t ht,fun i hi hu=>by
   have:=az.1 h3 i (List.mem_range.2 hi);rw[hu]at this;simpa[or_assoc]using this⟩
  rw[bz,cz];exact OG hQ hsel hs1 hc hgt hf rs l a w hC (fun k hk=>by simp[hk]) inv h5 h
 |k::fs,l,a,w,hC,hsh,hB,h=>by
  simp only[OH,ai]at hB;have hr:k∈Region.ready md L.toArray l:=by simpa using hB.1.1
  obtain⟨_,o,h0,_⟩:=dg.1 hr;have h0':L[k]? =some o:=by simpa using h0
  simp only[aJ,bt,h0']at h;obtain⟨v,hy,hK⟩:=qd h;rw[ax,show fs.length+1+(rs.length+(gs.length+1+(ps.length+ts.length)))=fs.length+(rs.length+(gs.length+1+(ps.length+ts.length)))+1 by omega];exact g_ h0 (Region.noSelect_spec hsel) (fun c a w=>hQ c a _ v w) _ _ _ _ (Region.free_spec h0 hB.1.2) hr hy (OI hQ hsel hs1 hc hgt hf fs _ _ w hC (hsh.set hr) hB.2 hK)
variable {id:Nat}
theorem Cj{l:List cC}{of:cC}(C:ae->Prop)(fs rs:List Nat)(f:Nat)(gs ps ts:List Nat)(hf:l[f]? =some of)(hm:P.follows .mixedOrders=true)(hQ:∀c a x v w,Q (.panic c) (a.put x v) w->Q (.panic c) a w)(hC:C w.drew)(hB:(Region.noSelect l.toArray&&l9 .any l.toArray (rs++(f::gs++ps)) ts&&jA .any l.toArray ts&&decide (fs.length+(rs.length+(gs.length+1+(ps.length+ts.length)))=l.length)&&((gs++ts).all fun t=>decide (t<l.length))&&OH .any l.toArray rs f gs ps ts fs (ab l.length false))=true)(h:cB P l.toArray (dS P l.toArray C (fun a'=>∀w',C w'->oK P l.toArray Q C (fun a w=>cB P l.toArray (fun a'=>wpList P l.toArray Q (aJ l ts) a' w) (aJ l ps) a) of (aJ l gs) a' w') (aJ l rs)) (aJ l fs) a):(da id l.toArray true).wp P Q a w:=by
 simp only[ai,decide_eq_true_eq]at hB;obtain⟨⟨⟨⟨⟨h1,h2⟩,h3⟩,h4⟩,h6⟩,h5⟩:=hB;refine fI (S:=C) (ds:=ts) hm ?_;have:=OI (P:=P) (md:=.any) hQ h1 h2 h3 (fun t ht=>by
  have:=az.1 h6 t ht;exact⟨_,cm (by simpa using this)⟩) (by simpa using hf) fs _ a w.drew hC (fun j oj _ hl=>by rw[getD_replicate_false]at hl;cases hl) h5 h
 rw[h4]at this;simpa using this
theorem GJ{ops:Array cC}{d:Bool}(F:dt->dt->ae->Prop)(h1:(da id ops d).wp P (fun e a' w'=>e=.normal∧F a a' w') a w)(h2:∀a' w',F a a' w'->Q .normal a' w'):(da id ops d).wp P Q a w:=
 Code.wp_mono (fun e a' w' h=>by obtain⟨rfl,h⟩:=h;exact h2 a' w' h) h1
end
section
variable {P:eh} {md:Region.Mode} {C:ae->Prop} {D:List Nat} {Q:Exit->dt->ae->Prop}
def bC(l:Array Bool)(ks:List Nat):Array Bool:=ks.foldl (fun l k=>l.setIfInBounds k true) l
def vQ(md:Region.Mode)(ops:Array cC):List Nat->Array Bool->Bool
 | [],_=>true
 |f::fs,l=>(Region.ready md ops l).contains f&&Region.free md ops l f&&vQ md ops fs (l.setIfInBounds f true)
theorem uZ{L:List cC}{R:dt->Prop}{w:ae}{k:Nat}(hQ:∀c a x v w,Q (.panic c) (a.put x v) w->Q (.panic c) a w)(hsel:Region.noSelect L.toArray=true):∀(ps:List Nat) (l:Array Bool) (a:dt),iN md L.toArray l->
 vQ md L.toArray ps l=true->cB P L.toArray R (aJ L ps) a->(iN md L.toArray (bC l ps)->∀a',R a'->aK P md L.toArray Q C D k (bC l ps) a' w)->aK P md L.toArray Q C D (ps.length+k) l a w
 | [],l,a,hsh,_,h,hR=>by
  rw[bz,cz];exact hR hsh a h
 |f::ps,l,a,hsh,hB,h,hR=>by
  simp only[vQ,ai]at hB;have hr:f∈Region.ready md L.toArray l:=by simpa using hB.1.1
  obtain⟨_,o,h0,_⟩:=dg.1 hr;have h0':L[f]? =some o:=by simpa using h0
  simp only[aJ,bt,h0']at h;obtain⟨v,hy,hK⟩:=qd h;rw[ax,show ps.length+1+k=ps.length+k+1 by omega];exact g_ h0 (Region.noSelect_spec hsel) (fun c a w=>hQ c a _ v w) _ _ _ _ (Region.free_spec h0 hB.1.2) hr hy (uZ hQ hsel ps _ _ (hsh.set hr) hB.2 hK hR)
def Jp(md:Region.Mode)(ops:Array cC):List Nat->Array Bool->Bool
 | [],_=>true
 |g::gs,l=>decide (Region.ready md ops l=[g])&&(ops[g]?).isSome&&Jp md ops gs (l.setIfInBounds g true)
theorem OJ{L:List cC}{R:dt->ae->Prop}{k:Nat}:∀(gs:List Nat) (l:Array Bool) (a:dt) (w:ae),C w->iN md L.toArray l->
 Jp md L.toArray gs l=true->dO P L.toArray Q C R (aJ L gs) a w->(iN md L.toArray (bC l gs)->∀a' w',C w'->R a' w'->aK P md L.toArray Q C D k (bC l gs) a' w')->aK P md L.toArray Q C D (gs.length+k) l a w
 | [],l,a,w,hC,hsh,_,h,hR=>by
  rw[bz,cz];exact hR hsh a w hC h
 |g::gs,l,a,w,hC,hsh,hB,h,hR=>by
  simp only[Jp,ai,decide_eq_true_eq]at hB;obtain⟨⟨hr,hs⟩,hB2⟩:=hB;obtain⟨o,ho⟩:=cM.1 hs;have ho':L[g]? =some o:=by simpa using ho
  have hm:g∈Region.ready md L.toArray l:=by rw[hr];simp
  have hp:aJ L (g::gs)=o::aJ L gs:=by simp only[aJ,bt,ho']
  rw[hp]at h;rw[ax,show gs.length+1+k=gs.length+k+1 by omega];refine⟨fun h1=>(by rw[hr]at h1;cases h1),fun i hi=>?_⟩;rw[hr]at hi;obtain rfl:i=g:=by simpa using hi
  exact qg ho hC (xX h) fun a' w' hC' h'=>OJ gs _ a' w' hC' (hsh.set hm) hB2 h' hR
def tQ(md:Region.Mode)(ops:Array cC)(N:Nat)(D:List Nat):List Nat->Array Bool->Bool
 | [],_=>true
 |k::ks,l=>(Region.ready md ops l).contains k&&Region.free md ops l k&&(D.all fun d=>Region.jS md ops k N d)&&tQ md ops N D ks (l.setIfInBounds k true)
theorem Ck{L:List cC}{N k:Nat}{R:dt->ae->Prop}(hQ:∀c a x v w,Q (.panic c) (a.put x v) w->Q (.panic c) a w)(hsel:Region.noSelect L.toArray=true):
 ∀(ks:List Nat) (l:Array Bool) (a:dt) (w:ae),C w->iN md L.toArray l->tQ md L.toArray N D ks l=true->
 dS P L.toArray C (fun a'=>∀w',C w'->R a' w') (aJ L ks) a->(iN md L.toArray (bC l ks)->∀a' w',C w'->R a' w'->aK P md L.toArray Q C D k (bC l ks) a' w')->aK P md L.toArray Q C D (ks.length+k) l a w
 | [],l,a,w,hC,hsh,_,h,hR=>by
  rw[bz,cz];exact hR hsh a w hC (h w hC)
 |k'::ks,l,a,w,hC,hsh,hB,h,hR=>by
  simp only[tQ,ai]at hB;have hr:k'∈Region.ready md L.toArray l:=by simpa using hB.1.1.1
  obtain⟨_,o,h0,_⟩:=dg.1 hr;have h0':L[k']? =some o:=by simpa using h0
  simp only[aJ,bt,h0',dS]at h;have key:∃v,YieldsIf P L.toArray C o v a∧dS P L.toArray C (fun a'=>∀w',C w'->R a' w') (aJ L ks) (a.put o.dst v):=by
   by_cases hw:Region.wanted o (yielded L.toArray a.tmps)=true
   .rw[if_pos hw]at h;obtain⟨v,h1,h2⟩:=h;exact⟨v,.inl ⟨hw,h1⟩,h2⟩
   .rw[if_neg hw]at h;exact⟨undef,.inr ⟨by simpa using hw,rfl⟩,h⟩
  obtain⟨v,hy,hK⟩:=key;rw[ax,show ks.length+1+k=ks.length+k+1 by omega];exact jH h0 (Region.noSelect_spec hsel) (fun c a w=>hQ c a _ v w) N _ l a w (Region.free_spec h0 hB.1.1.2) hsh (fun d hd _=>az.1 hB.1.2 d hd) hr hy hC (Ck hQ hsel ks _ _ w hC (iN.set hsh hr) hB.2 hK hR)
def su(md:Region.Mode)(ops:Array cC)(ts:List Nat):List (List Nat×List Nat)->Array Bool->Bool
 | [],l=>tH md ops ts l
 |(gs,ps)::r,l=>Jp md ops gs l&&vQ md ops ps (bC l gs)&&su md ops ts r (bC (bC l gs) ps)
def mY:List (List Nat×List Nat)->Nat
 | []=>0
 |(gs,ps)::r=>gs.length+(ps.length+mY r)
def gu(P:eh)(L:List cC)(Q:Exit->dt->ae->Prop)(C:ae->Prop)(ts:List Nat):List (List Nat×List Nat)->dt->ae->Prop
 | [],a,w=>wpList P L.toArray Q (aJ L ts) a w
 |(gs,ps)::r,a,w=>dO P L.toArray Q C (fun a w=>cB P L.toArray (fun a'=>gu P L Q C ts r a' w) (aJ L ps) a) (aJ L gs) a w
theorem tT{L:List cC}{ts:List Nat}(hQ:∀c a x v w,Q (.panic c) (a.put x v) w->Q (.panic c) a w)(hsel:Region.noSelect L.toArray=true)(ht:∀t∈ts,∃o,L.toArray[t]? =some o):∀(u_:List (List Nat×List Nat)) (l:Array Bool) (a:dt) (w:ae),C w->iN md L.toArray l->
 su md L.toArray ts u_ l=true->gu P L Q C ts u_ a w->aK P md L.toArray Q C ts (mY u_+ts.length) l a w
 | [],l,a,w,_,_,hB,h=>by
  rw[mY,cz];exact mX ts l a w (fun t h=>⟨h,ht t h⟩) hB h
 |(gs,ps)::r,l,a,w,hC,hsh,hB,h=>by
  simp only[su,ai]at hB;rw[mY,show gs.length+(ps.length+mY r)+ts.length=gs.length+(ps.length+(mY r+ts.length)) by omega];exact OJ gs l a w hC hsh hB.1.1 h fun KW a1 w1 OL h1=>uZ hQ hsel ps _ a1 KW hB.1.2 h1 fun tV a2 h2=>tT hQ hsel ht r _ a2 w1 OL tV hB.2 h2
theorem gy{id:Nat}{a:dt}{w:ae}{l:List cC}(C:ae->Prop)(N:Nat)(fs rs:List Nat)(u_:List (List Nat×List Nat))(ts:List Nat)(hm:P.follows .mixedOrders=true)(hQ:∀c a x v w,Q (.panic c) (a.put x v) w->Q (.panic c) a w)(hC:C w.drew)(hB:(Region.noSelect l.toArray&&decide (fs.length+(rs.length+(mY u_+ts.length))=l.length)&&(ts.all fun t=>decide (t<l.length))&&vQ .any l.toArray fs (ab l.length false)&&tQ .any l.toArray N ts rs (bC (ab l.length false) fs)&&su .any l.toArray ts u_ (bC (bC (ab l.length false) fs) rs))=true)(h:cB P l.toArray (dS P l.toArray C (fun a'=>∀w',C w'->gu P l Q C ts u_ a' w') (aJ l rs)) (aJ l fs) a):(da id l.toArray true).wp P Q a w:=by
 simp only[ai,decide_eq_true_eq]at hB;obtain⟨⟨⟨⟨⟨h1,h4⟩,h6⟩,h5⟩,h7⟩,h8⟩:=hB;refine fI (S:=C) (ds:=ts) hm ?_;have ht:∀t∈ts,∃o,l.toArray[t]? =some o:=fun t ht=>by
  have:=az.1 h6 t ht;exact⟨_,cm (by simpa using this)⟩
 have:=uZ (P:=P) (md:=.any) (C:=C) (D:=ts) (w:=w.drew) (k:=rs.length+(mY u_+ts.length)) hQ h1 fs _ a (fun j oj _ hl=>by rw[getD_replicate_false]at hl;cases hl) h5 h
  fun hsh a1 hr=>Ck hQ h1 rs _ a1 w.drew hC hsh h7 hr fun tV a2 w2 hC2 h2=>tT hQ h1 ht u_ _ a2 w2 hC2 tV h8 h2
 rw[h4]at this;simpa using this
end
section
variable {P:eh} {md:Region.Mode} {C:ae->Prop} {D:List Nat} {Q:Exit->dt->ae->Prop}
def rX(md:Region.Mode)(ops:Array cC)(G:List Nat)(lf:Array Bool):Nat->Array Bool->Bool
 |0,l=>l==lf
 |f+1,l=> !(Region.ready md ops l).isEmpty&&(Region.ready md ops l).all fun i=>G.contains i&&(ops[i]?).isSome&&rX md ops G lf f (l.setIfInBounds i true)
theorem vR{l:Array Bool}{i j:Nat}(h:(l.setIfInBounds i true).getD j false=true):j=i∨l.getD j false=true:=by
 by_cases hij:i=j
 .exact .inl hij.symm
 .rw[getD_set_ne false hij]at h;exact .inr h
theorem WC{L:List cC}{G:List Nat}{l0 lf:Array Bool}{J:(Nat->Prop)->dt->ae->Prop}{k:Nat}(step:∀(d:Nat->Prop) (a:dt) (w:ae) (i:Nat) (o:cC),i∈G->L[i]? =some o->C w->(∀j,Region.waitsFor md L.toArray i j=true->l0.getD j false=false->d j)->J d a w->dO P L.toArray Q C (fun a' w'=>J (fun j=>j=i∨d j) a' w') [o] a w)(fin:∀(d:Nat->Prop) (a:dt) (w:ae),(∀j∈G,d j)->C w->iN md L.toArray lf->J d a w->aK P md L.toArray Q C D k lf a w)(hG:∀j∈G,lf.getD j false=true∧l0.getD j false=false):∀(f:Nat) (l:Array Bool) (d:Nat->Prop) (a:dt) (w:ae),rX md L.toArray G lf f l=true->C w->iN md L.toArray l->(∀j,l.getD j false=true->l0.getD j false=true∨d j)->J d a w->aK P md L.toArray Q C D (f+k) l a w
 |0,l,d,a,w,hB,hC,hsh,hd,hJ=>by
  have e:l=lf:=by simpa[rX]using hB
  subst e;rw[cz];refine fin d a w (fun j hj=>?_) hC hsh hJ;obtain⟨h1,h2⟩:=hG j hj;rcases hd j h1 with h|h
  .rw[h2]at h;cases h
  .exact h
 |f+1,l,d,a,w,hB,hC,hsh,hd,hJ=>by
  simp only[rX,ai,cN,dj,az]at hB;obtain⟨h0,hB⟩:=hB;rw[show f+1+k=f+k+1 by omega];refine⟨fun h=>absurd h h0,fun i hi=>?_⟩;obtain⟨⟨hg,hs⟩,hb⟩:=hB i hi;obtain⟨o,ho⟩:=cM.1 hs;have hw:=step d a w i o (by simpa using hg) (by simpa using ho) hC (fun j hj hl=>by
   obtain⟨oj,h1,e,he,hb1,rfl⟩:=Region.waitsFor_spec hj;obtain⟨_,o',h2,h3⟩:=dg.1 hi;rw[h1]at h2;injection h2 with h2;subst h2;rcases hd _ (h3 e he hb1)with h|h
   .rw[hl]at h;cases h
   .exact h) hJ
  exact qg ho hC hw fun a' w' hC' hJ'=>WC step fin hG f _ _ a' w' hb hC' (hsh.set hi) (fun j hj=>by
   rcases vR hj with rfl|h
   .exact .inr (.inl rfl)
   .exact(hd j h).imp id .inr) hJ'
theorem GK{id:Nat}{a:dt}{w:ae}{l:List cC}(C:ae->Prop)(N:Nat)(fs rs G:List Nat)(J:(Nat->Prop)->dt->ae->Prop)(u_:List (List Nat×List Nat))(ts:List Nat)(hm:P.follows .mixedOrders=true)(hQ:∀c a x v w,Q (.panic c) (a.put x v) w->Q (.panic c) a w)(hC:C w.drew)(hB:(Region.noSelect l.toArray&&decide (fs.length+(rs.length+(G.length+(mY u_+ts.length)))=l.length)&&(ts.all fun t=>decide (t<l.length))&&vQ .any l.toArray fs (ab l.length false)&&tQ .any l.toArray N ts rs (bC (ab l.length false) fs)   &&rX .any l.toArray G (bC (bC (bC (ab l.length false) fs) rs) G) G.length (bC (bC (ab l.length false) fs) rs)   &&(G.all fun j=>(bC (bC (bC (ab l.length false) fs) rs) G).getD j false&& !(bC (bC (ab l.length false) fs) rs).getD j false)   &&su .any l.toArray ts u_ (bC (bC (bC (ab l.length false) fs) rs) G))=true)(step:∀(d:Nat->Prop) (a:dt) (w:ae) (i:Nat) (o:cC),i∈G->l[i]? =some o->C w->(∀j,Region.waitsFor .any l.toArray i j=true->(bC (bC (ab l.length false) fs) rs).getD j false=false->d j)->J d a w->dO P l.toArray Q C (fun a' w'=>J (fun j=>j=i∨d j) a' w') [o] a w)(fin:∀(d:Nat->Prop) (a:dt) (w:ae),(∀j∈G,d j)->C w->J d a w->gu P l Q C ts u_ a w)(h:cB P l.toArray (dS P l.toArray C (fun a'=>∀w',C w'->J (fun _=>False) a' w') (aJ l rs)) (aJ l fs) a):(da id l.toArray true).wp P Q a w:=by
 simp only[ai,decide_eq_true_eq]at hB;obtain⟨⟨⟨⟨⟨⟨⟨h1,h4⟩,h6⟩,h5⟩,h7⟩,h9⟩,h10⟩,h8⟩:=hB;refine fI (S:=C) (ds:=ts) hm ?_;have ht:∀t∈ts,∃o,l.toArray[t]? =some o:=fun t ht=>by
  have:=az.1 h6 t ht;exact⟨_,cm (by simpa using this)⟩
 have hG:=fun j hj=>by
  have:=az.1 h10 j hj;simpa only[ai,cN]using this
 have:=uZ (P:=P) (md:=.any) (C:=C) (D:=ts) (w:=w.drew) (k:=rs.length+(G.length+(mY u_+ts.length))) hQ h1 fs _ a (fun j oj _ hl=>by rw[getD_replicate_false]at hl;cases hl) h5 h
  fun hsh a1 hr=>Ck hQ h1 rs _ a1 w.drew hC hsh h7 hr fun tV a2 w2 hC2 h2=>WC (l0:=bC (bC (ab l.length false) fs) rs) (J:=J) step (fun d a3 w3 hd wX OM hJ=>tT hQ h1 ht u_ _ a3 w3 wX OM h8 (fin d a3 w3 hd wX hJ)) hG _ _ (fun _=>False) a2 w2 h9 hC2 tV (fun j hj=>.inl hj) h2
 rw[h4]at this;simpa using this
end
section
variable {P:eh} {md:Region.Mode} {C:ae->Prop} {D:List Nat} {Q:Exit->dt->ae->Prop}
theorem Au{ops:Array cC}{l:Array Bool}{i:Nat}(h:i∈Region.ready md ops l):¬l.getD i false=true∧(l.setIfInBounds i true).getD i false=true:=by
 obtain⟨h2,_⟩:=dg.1 h;rw[cD]at h2;cases hx:l[i]? with
 |none=>rw[hx]at h2;cases h2
 |some b=>
  rw[hx]at h2;obtain rfl:b=false:=h2;obtain⟨hlt,_⟩:=Array.getElem?_eq_some_iff.1 hx;refine⟨fun h=>?_,?_⟩
  .rw[cD,hx]at h;cases h
  .rw[cD,Array.getElem?_setIfInBounds_self_of_lt hlt];rfl
theorem GL{L:List cC}{G:List Nat}{l0 lf:Array Bool}{J:(Nat->Prop)->dt->ae->Prop}{k:Nat}(step:∀(d:Nat->Prop) (a:dt) (w:ae) (i:Nat) (o:cC),i∈G->L[i]? =some o->C w->(∀j,Region.waitsFor md L.toArray i j=true->l0.getD j false=false->d j)->¬d i->J d a w->dO P L.toArray Q C (fun a' w'=>J (fun j=>j=i∨d j) a' w') [o] a w)(fin:∀(d:Nat->Prop) (a:dt) (w:ae),(∀j∈G,d j)->C w->iN md L.toArray lf->J d a w->aK P md L.toArray Q C D k lf a w)(hG:∀j∈G,lf.getD j false=true∧l0.getD j false=false):∀(f:Nat) (l:Array Bool) (d:Nat->Prop) (a:dt) (w:ae),rX md L.toArray G lf f l=true->C w->iN md L.toArray l->(∀j,l.getD j false=true->l0.getD j false=true∨d j)->(∀j,d j->l.getD j false=true)->J d a w->aK P md L.toArray Q C D (f+k) l a w
 |0,l,d,a,w,hB,hC,hsh,hd,hn,hJ=>by
  have e:l=lf:=by simpa[rX]using hB
  subst e;rw[cz];refine fin d a w (fun j hj=>?_) hC hsh hJ;obtain⟨h1,h2⟩:=hG j hj;rcases hd j h1 with h|h
  .rw[h2]at h;cases h
  .exact h
 |f+1,l,d,a,w,hB,hC,hsh,hd,hn,hJ=>by
  simp only[rX,ai,cN,dj,az]at hB;obtain⟨h0,hB⟩:=hB;rw[show f+1+k=f+k+1 by omega];refine⟨fun h=>absurd h h0,fun i hi=>?_⟩;obtain⟨⟨hg,hs⟩,hb⟩:=hB i hi;obtain⟨o,ho⟩:=cM.1 hs;have hw:=step d a w i o (by simpa using hg) (by simpa using ho) hC (fun j hj hl=>by
   obtain⟨oj,h1,e,he,hb1,rfl⟩:=Region.waitsFor_spec hj;obtain⟨_,o',h2,h3⟩:=dg.1 hi;rw[h1]at h2;injection h2 with h2;subst h2;rcases hd _ (h3 e he hb1)with h|h
   .rw[hl]at h;cases h
   .exact h) (fun h=>by
    have h1:=hn i h;exact(Au hi).1 h1) hJ
  exact qg ho hC hw fun a' w' hC' hJ'=>GL step fin hG f _ _ a' w' hb hC' (hsh.set hi) (fun j hj=>by
   rcases vR hj with rfl|h
   .exact .inr (.inl rfl)
   .exact(hd j h).imp id .inr) (fun j hj=>by
    rcases hj with rfl|hj
    .exact(Au hi).2
    .exact getD_set_true (hn j hj)) hJ'
theorem Ei{id:Nat}{a:dt}{w:ae}{l:List cC}(C:ae->Prop)(N:Nat)(fs rs G:List Nat)(J:(Nat->Prop)->dt->ae->Prop)(u_:List (List Nat×List Nat))(ts:List Nat)(hm:P.follows .mixedOrders=true)(hQ:∀c a x v w,Q (.panic c) (a.put x v) w->Q (.panic c) a w)(hC:C w.drew)(hB:(Region.noSelect l.toArray&&decide (fs.length+(rs.length+(G.length+(mY u_+ts.length)))=l.length)&&(ts.all fun t=>decide (t<l.length))&&vQ .any l.toArray fs (ab l.length false)&&tQ .any l.toArray N ts rs (bC (ab l.length false) fs)   &&rX .any l.toArray G (bC (bC (bC (ab l.length false) fs) rs) G) G.length (bC (bC (ab l.length false) fs) rs)   &&(G.all fun j=>(bC (bC (bC (ab l.length false) fs) rs) G).getD j false&& !(bC (bC (ab l.length false) fs) rs).getD j false)   &&su .any l.toArray ts u_ (bC (bC (bC (ab l.length false) fs) rs) G))=true)(step:∀(d:Nat->Prop) (a:dt) (w:ae) (i:Nat) (o:cC),i∈G->l[i]? =some o->C w->(∀j,Region.waitsFor .any l.toArray i j=true->(bC (bC (ab l.length false) fs) rs).getD j false=false->d j)->¬d i->J d a w->dO P l.toArray Q C (fun a' w'=>J (fun j=>j=i∨d j) a' w') [o] a w)(fin:∀(d:Nat->Prop) (a:dt) (w:ae),(∀j∈G,d j)->C w->J d a w->gu P l Q C ts u_ a w)(h:cB P l.toArray (dS P l.toArray C (fun a'=>∀w',C w'->J (fun _=>False) a' w') (aJ l rs)) (aJ l fs) a):(da id l.toArray true).wp P Q a w:=by
 simp only[ai,decide_eq_true_eq]at hB;obtain⟨⟨⟨⟨⟨⟨⟨h1,h4⟩,h6⟩,h5⟩,h7⟩,h9⟩,h10⟩,h8⟩:=hB;refine fI (S:=C) (ds:=ts) hm ?_;have ht:∀t∈ts,∃o,l.toArray[t]? =some o:=fun t ht=>by
  have:=az.1 h6 t ht;exact⟨_,cm (by simpa using this)⟩
 have hG:=fun j hj=>by
  have:=az.1 h10 j hj;simpa only[ai,cN]using this
 have:=uZ (P:=P) (md:=.any) (C:=C) (D:=ts) (w:=w.drew) (k:=rs.length+(G.length+(mY u_+ts.length))) hQ h1 fs _ a (fun j oj _ hl=>by rw[getD_replicate_false]at hl;cases hl) h5 h
  fun hsh a1 hr=>Ck hQ h1 rs _ a1 w.drew hC hsh h7 hr fun tV a2 w2 hC2 h2=>GL (l0:=bC (bC (ab l.length false) fs) rs) (J:=J) step (fun d a3 w3 hd wX OM hJ=>tT hQ h1 ht u_ _ a3 w3 wX OM h8 (fin d a3 w3 hd wX hJ)) hG _ _ (fun _=>False) a2 w2 h9 hC2 tV (fun j hj=>.inl hj) (fun j hj=>hj.elim) h2
 rw[h4]at this;simpa using this
end
end Go.Proofs.YtlhhcnknclnlaaaGreatDoor.Top
namespace Go.Proofs.YtlhhcnknclnlaaaGreatDoor.HX
open Go.RowKit Go.Proofs.ah.aN Go.Proofs.ah.bA Go.Proofs.ah.dx
variable {A:Option dC}{P:eh}{b c:Nat}{w:ae}{α:Type}
theorem SY{d:Kd α}(t e:TypeId)(ht:P.underlying t=some (.slice e)){z:dv}{s:Nat}(hi:(P.info? e).map (fun i=>(i.zero,i.size,i.bytes))=some (some z,s,b)){l:List α}(h:d.C w A l.length l)(hc:l.length<=c)(m:Nat):
 ∃q,q=l.take m∧(if(m:Int)<(l.length:Int)then(m:Int)else(l.length:Int))=(q.length:Int)∧(∀W:ae,(Instr.slice t (.slice A l.length c) none (some (.int .i64 (q.length:Int))) none).run P W=.ok (.slice A q.length c) W)∧d.C w A q.length q∧q.length<=c∧q.length<=m:=by
 obtain⟨i,hi,_⟩:=du.1 hi;have hl:(l.take m).length<=l.length:=by rw[ao];omega
 refine⟨l.take m,rfl,?_,fun W=>?_,?_,by omega,by rw[ao];omega⟩
 .rw[ao];split<;>omega
 .have:=NJ (P:=P) t e .i64 ht hi A l.length c ((l.take m).length:Int) (by omega) (by omega) hc W;simpa using this
 .have:=Kd.NP (m:=min m l.length) h (Nat.min_le_right _ _);have e:l.take (min m l.length)=l.take m:=by
   by_cases g:m<=l.length
   .rw[dy g]
   .rw[Nat.min_eq_right (by omega),dr,List.take_of_length_le (by omega)]
  rwa [e]at this
theorem S_{d:Kd α}(t e:TypeId)(ht:P.underlying t=some (.slice e)){z:dv}(hi:(P.info? e).map (fun i=>(i.zero,i.size,i.bytes))=some (some z,d.sz,b)){l:List α}(h:d.C w A l.length l)(hc:l.length<=c)(j:Int)(h0:0<=j)(h1:j<=l.length):
 ∃q A',q=l.drop j.toNat∧(∀W:ae,(Instr.slice t (.slice A l.length c) (some (.int .i64 j)) none none).run P W=.ok (.slice A' q.length (c-j.toNat)) W)∧d.C w A' q.length q∧q.length<=c-j.toNat:=by
 obtain⟨i,hi,hz⟩:=du.1 hi;simp only[ba]at hz;refine⟨l.drop j.toNat,_,rfl,fun W=>?_,Kd.xL h (m:=j.toNat) (by omega) hc,by rw[ca];omega⟩;have:=NK (P:=P) t e .i64 ht hi d.sz hz.2.1 A l.length c j h0 h1 W;rwa [ca]
theorem X9{d:Kd α}{e base:Nat}{ok:Nat->Prop}{n:Nat}{l:List α}(h:d.R e w base ok (.slice A n c) l):n=l.length∧l.length<=c∧d.C w A l.length l:=by
 obtain⟨A',c',he,hl,hC⟩:=Kd.wQ h;injection he with h1 h2 h3;subst h1 h2 h3;exact⟨rfl,hl,hC⟩
theorem eX{w1:ae}(h:w.grownBy w1 none):cE w.heap.size w w1:=(aw _ _).grown h (bj _) (fun k e=>by cases e)
end Go.Proofs.YtlhhcnknclnlaaaGreatDoor.HX
namespace Go.Proofs.YtlhhcnknclnlaaaGreatDoor.iH
open Go.RowKit Go.Proofs.ah.aN Go.Proofs.ah.bA Go.Proofs.ah.dx
section
attribute [local go_sem] gM gN kY lg
theorem info3:(ag.info? 3).map (fun i=>(i.zero,i.size,i.bytes))=some (some (.int .i64 0),1,8):=by kernel_rfl
theorem info5:(ag.info? 5).map (fun i=>(i.zero,i.size,i.bytes))=some (some (.int .u8 0),1,1):=by kernel_rfl
theorem Cm:(ag.info? 40).map (fun i=>(i.zero,i.size,i.bytes))=some (some (.slice none 0 0),1,24):=by kernel_rfl
theorem xY:(ag.info? 46).map (fun i=>(i.zero,i.size,i.bytes))=some (some (.agg #[(.int .u32 0),(.int .u32 0),(.int .u32 0)]),3,12):=by kernel_rfl
structure jB where
 f0:Int
 f1:Int
 f2:Int
def z46:jB:=⟨(0:Int),(0:Int),(0:Int)⟩
def pR:Kd jB:=Kd.iso (Kd.pair (Kd.int .u32) (Kd.pair (Kd.int .u32) (Kd.int .u32))) (fun x:jB=>(x.f0,x.f1,x.f2))
variable {cs:List dv}{w:ae}{x:jB}
theorem OU(h:pR.K w x cs):cs=[.int .u32 x.f0,.int .u32 x.f1,.int .u32 x.f2]:=by
 obtain⟨_,_,rfl,rfl,⟨_,_,rfl,rfl,rfl⟩⟩:=h;exact rfl
theorem Av{base:Nat}{ok:Nat->Prop}(h:pR.M w base ok x cs):cs=[.int .u32 x.f0,.int .u32 x.f1,.int .u32 x.f2]:=by
 obtain⟨_,_,rfl,rfl,⟨_,_,rfl,rfl,rfl⟩⟩:=h;exact rfl
theorem GN(w:ae)(x:jB):pR.K w x [.int .u32 x.f0,.int .u32 x.f1,.int .u32 x.f2]:=⟨[.int .u32 x.f0],[.int .u32 x.f1,.int .u32 x.f2],rfl,rfl,⟨[.int .u32 x.f1],[.int .u32 x.f2],rfl,rfl,rfl⟩⟩
theorem Jq(w:ae)(base:Nat)(ok:Nat->Prop)(x:jB):pR.M w base ok x [.int .u32 x.f0,.int .u32 x.f1,.int .u32 x.f2]:=⟨[.int .u32 x.f0],[.int .u32 x.f1,.int .u32 x.f2],rfl,rfl,⟨[.int .u32 x.f1],[.int .u32 x.f2],rfl,rfl,rfl⟩⟩
def bE(xs:List jB)(i:Int):jB:=xs.getD i.toNat z46
theorem lJ{A:Option dC}{n:Nat}{xs:List jB}(h:Kd.C pR w A n xs)(i:Int)(h0:0<=i)(h1:i<n):∃ad,A=some ad∧w.cell? (ad.add (i.toNat*3))=some (.int .u32 (bE xs i).f0)∧w.cell? ⟨(ad.add (i.toNat*3)).block,(ad.add (i.toNat*3)).off+1,none⟩=some (.int .u32 (bE xs i).f1)∧w.cell? ⟨(ad.add (i.toNat*3)).block,(ad.add (i.toNat*3)).off+2,none⟩=some (.int .u32 (bE xs i).f2):=by
 obtain⟨ad,c,e,_,hK,hc0⟩:=Kd.aaO h z46 i h0 h1;have hc:∀j u,c[j]? =some u->w.cell? (ad.add (i.toNat*3+j))=some u:=hc0;obtain rfl:=OU hK;exact⟨ad,e,hc 0 _ rfl,by rw[<-zY _ _ 1 (by omega)];exact hc 1 _ rfl,by rw[<-zY _ _ 2 (by omega)];exact hc 2 _ rfl⟩
end
section
attribute [local go_sem] gM gN kY lg
mutual
def bK.l0:Nat->Int->List Int->Int->Int->Option (Int)
 |0,_,_,_,_=>none
 |k+1,x3,x6,x7,x8=>if x8<x7 then(if 0<=x8 then(if x8<(x6.length:Int)then(bK.l1 k (de .xor .u32 x3 ((rd x6 x8)%4294967296)) x6 x7 x8 0)else(none))else(none))else(some (de .xor .u32 (-1) x3))
def bK.l1:Nat->Int->List Int->Int->Int->Int->Option (Int)
 |0,_,_,_,_,_=>none
 |k+1,x3,x6,x7,x8,X_=>if X_<8 then(bK.l1 k (de .xor .u32 (x3/2) (de .and .u32 3988292384 ((-(de .and .u32 x3 1))%4294967296))) x6 x7 x8 (wrap64 (X_+1)))else(bK.l0 k x3 x6 x7 (wrap64 (x8+1)))
end
def bK.f(k:Nat)(l0:List Int):Option (Int):=bK.l0 k 4294967295 l0 (l0.length:Int) 0
theorem bK.calls(k:Nat)(A0:Option dC)(c0:Nat)(l0:List Int)(r:Int)(w:ae)(hr0:Kd.C (Kd.int .u8) w A0 l0.length l0)(hc0:l0.length<=c0)(h:bK.f k l0=some r):
 di ag 114 #[.slice A0 l0.length c0] w fun e w'=>e=.returned (.int .u32 r)∧bG w w':=by
 have nS:=Y1 hr0;have xZ:=Y1 hc0;clear hr0 hc0;have H:=h;clear h;unfold bK.f at H;have H':=Y1 H;clear H;go_enter et,ntmps114
 go_wp2
 go_loopg [3,8] k (fun kq v3 v8 w'=>∃(kJ:Int) (fG:Int),v3=.int .u32 kJ∧v8=.int .i64 fG∧aG (bK.l0 kq kJ l0 (l0.length:Int) fG=some r)∧aG (kq<=k)∧bG w w')
 case atStart=>exact⟨(4294967295),(0),(by rfl),(by rfl),H',⟨bj _⟩,by repeat (exact bG.refl _)⟩
 case round=>
  clear H';obtain⟨kJ,fG,rfl,rfl,HA,tX,⟨m1,rfl⟩⟩:=hrel;cases gk with
  |zero=>exact absurd HA.out (by simp[bK.l0])
  |succ k1=>
   have H:=HA.out;clear HA;simp only[bK.l0]at H;by_cases c2:fG<(l0.length:Int)
   .rw[if_pos c2]at H;have Ej:decide (fG<(l0.length:Int))=true:=decide_eq_true c2;clear c2;by_cases c3:0<=fG
    .rw[if_pos c3]at H;have zI:decide (0<=fG)=true:=decide_eq_true c3;clear c3;by_cases c4:fG<(l0.length:Int)
     .rw[if_pos c4]at H;have wH:decide (fG<(l0.length:Int))=true:=decide_eq_true c4;clear c4;have H':=Y1 H;clear H;have Ta:0<=(fG:Int):=of_decide_eq_true (by(with_reducible assumption));have Tc:fG<(l0.length:Int):=of_decide_eq_true (by(with_reducible assumption));obtain⟨agC,aeN,Td⟩:=Kd.NG nS.out fG Ta Tc;cases aeN;replace Ta:=eq_true Ta;replace Tc:=eq_true Tc
      go_wp2
      go_loopg [3,16] k1 (fun kq v3 v16 w'=>∃(ig:Int) (yc:Int),v3=.int .u32 ig∧v16=.int .i64 yc∧aG (bK.l1 kq ig l0 (l0.length:Int) fG yc=some r)∧aG (kq<=k1)∧bG w w')
      case atStart=>exact⟨(de .xor .u32 kJ ((rd l0 fG)%4294967296)),(0),(by rfl),(by rfl),H',⟨bj _⟩,by repeat (first|exact bG.refl _|apply bG.step)⟩
      case round=>
       clear H'
       try clear Ej
       try clear zI
       try clear wH
       try clear Td
       try clear Ta
       try clear Tc
       obtain⟨ig,yc,rfl,rfl,HA,El,⟨m2,rfl⟩⟩:=hrel;cases gk with
       |zero=>exact absurd HA.out (by simp[bK.l1])
       |succ k2=>
        have H:=HA.out;clear HA;simp only[bK.l1]at H;by_cases c5:yc<8
        .rw[if_pos c5]at H;have zJ:decide (yc<8)=true:=decide_eq_true c5;clear c5;have H':=Y1 H;clear H
         go_wp2
         go_roundg k2
         case measure=>have:=tX.out;have:=El.out;omega
         case rel=>exact⟨(de .xor .u32 (ig/2) (de .and .u32 3988292384 ((-(de .and .u32 ig 1))%4294967296))),(wrap64 (yc+1)),(by rfl),(by rfl),H',⟨by have:=tX.out;have:=El.out;omega⟩,by repeat (first|exact bG.refl _|apply bG.step)⟩
        .rw[if_neg c5]at H;have zJ:decide (yc<8)=false:=decide_eq_false c5;clear c5;have H':=Y1 H;clear H
         go_wp2
         go_roundg k2
         case measure=>have:=tX.out;have:=El.out;omega
         case rel=>exact⟨(ig),(wrap64 (fG+1)),(by rfl),(by rfl),H',⟨by have:=tX.out;have:=El.out;omega⟩,by repeat (first|exact bG.refl _|apply bG.step)⟩
     .rw[if_neg c4]at H;exact absurd H (by simp)
    .rw[if_neg c3]at H;exact absurd H (by simp)
   .rw[if_neg c2]at H;have Ej:decide (fG<(l0.length:Int))=false:=decide_eq_false c2;clear c2;obtain rfl:=aa H
    go_wp2
    go_ret;exact⟨by rfl,by repeat (first|exact bG.refl _|apply bG.step)⟩
def cK.f(l0:List Int):Option (List Int):=if l0.length<140737488355328 then some l0 else none
theorem cK.calls(A0:Option dC)(c0:Nat)(l0:List Int)(r:List Int)(w:ae)(hr0:Kd.C (Kd.int .u8) w A0 l0.length l0)(hc0:l0.length<=c0)(h:cK.f l0=some r):
 di ag 47 #[.slice A0 l0.length c0] w fun e w'=>∃vT:dv,e=.returned (vT)∧Kd.R (Kd.int .u8) 5 w' w.heap.size (fun _=>True) vT r∧cE w.heap.size w w':=by
 have nS:=Y1 hr0;have HB:=Y1 (aw w.heap.size w);clear hr0;unfold cK.f at h;by_cases hl:l0.length<140737488355328
 .rw[if_pos hl]at h;obtain rfl:=aa h;clear h;have X0:=al;have q22:∀(w:ae) (a:Option dC) (n c:Nat),(binOp .eql 40 (.slice a n c) (.slice none 0 0)).run ag w=.ok (.bool a.isNone) w:=fun w a n c=>Go.run_eql_slice_nil w _ _ a n c al
  cases A0 with
  |none=>
   have hz:l0=[]:=by
    cases l0 with
    |nil=>rfl
    |cons x l=>obtain⟨_,e,_⟩:=nS.out.2.2 (by simp);cases e
   subst hz;clear hl;go_enter dE,eS
   go_wp2
   go_ret;exact⟨_,rfl,Kd.sW _ _ _ _ _,aw _ _⟩
  |some a=>
   have LM:=Y1 hl;clear hl hc0;go_enter dE,eS
   go_wp2_with (first|((with_reducible refine bP (N:=5) rfl ?_);refine Kd.xK (Kd.int .u8) _ 5 ?hg (N:=5) ?hd (xs:=([]:List Int)) (inner:=[]) (ok:=fun _=>True) (lX:=fun _=>True) ?hr ?hp (fun _ hk=>hk) trivial (aw _ _) (bj _) (by simp) ?_;(case hd=>rfl);(case hg=>rfl);(case hr=>(go_simp;done));(case hp=>exact(gZ.none _ _));intro v109 w5 vO hb Gw mq;clear Gw mq;have HO:=Y1 vO;have HB1:=Y1 hb;clear hb vO)|((with_reducible refine fF (b:=.append) (xs:= #[.tmp 5,.tmp 6]) rfl ?_);at_builtin;refine Kd.iR (Kd.int .u8) (w0:=w) w.heap.size rfl (.tmp 5) (.tmp 6) 40 5 (.int .u8 0) 1 rfl al info5 rfl (by decide) (by omega) v109 [] l0 _ _ _ (fun _=>True) (fun _=>False) rfl rfl HO.out (Kd.bM nS.out HB1.out) (fun _ _ h=>h) (fun _ h=>h.elim) (fun _ _=>trivial) HB1.out (aC HB1.out) (by have:=LM.out;simp;omega) ?_;intro X3 w7 ho hb hg hat;clear hg hat;have HP:=Y1 ho;have HB2:=Y1 hb;clear ho hb))
   go_ret;exact⟨_,rfl,HP.out,HB2.out⟩
 .rw[if_neg hl]at h;exact absurd h (by simp)
def dH.l0:Nat->Int->List Int->Int->Int->Option (List Int)
 |0,_,_,_,_=>none
 |k+1,x2,x7,x12,x13=>if x13<x12 then(if x7.length<140737488355328 then(dH.l0 k (x2/256) (x7++[(x2)%256]) x12 (wrap64 (x13+1)))else(none))else(some x7)
def dH.f(k:Nat)(l0:List Int)(a1:Int)(a2:Int):Option (List Int):=(cK.f l0).bind fun t102=>(dH.l0 k a2 t102 (mn (mx a1 0) 8) 0)
theorem dH.calls(k:Nat)(A0:Option dC)(c0:Nat)(l0:List Int)(a1:Int)(a2:Int)(r:List Int)(w:ae)(hr0:Kd.C (Kd.int .u8) w A0 l0.length l0)(hc0:l0.length<=c0)(h:dH.f k l0 a1 a2=some r):
 di ag 117 #[.slice A0 l0.length c0,.int .i64 a1,.int .u64 a2] w fun e w'=>∃vT:dv,e=.returned (vT)∧Kd.R (Kd.int .u8) 5 w' w.heap.size (fun _=>True) vT r∧cE w.heap.size w w':=by
 have nS:=Y1 hr0;have xZ:=Y1 hc0;clear hr0 hc0;have HB:=Y1 (aw w.heap.size w);have H:=h;clear h;unfold dH.f at H;replace H:=af.mp H;obtain⟨t102,A40,H⟩:=H;have A4:=Y1 A40;clear A40;obtain⟨Em,KX⟩:∃j_:Int,(mx a1 0)=j_:=⟨_,rfl⟩
 rw[KX]at H
 (try (have agD:0<=Em:=by(rw[<-KX];unfold mx;(repeat' split)<;>omega)))
 (try (have agE:0<=Em:=by omega))
 have agF:(if a1<0 then 0 else a1)=Em:=KX;obtain⟨Ya,aa7⟩:∃j_:Int,(mn (Em) 8)=j_:=⟨_,rfl⟩
 rw[aa7]at H;have agG:(if 8<(Em)then 8 else(Em))=Ya:=aa7;have H':=Y1 H;clear H
 (try have agH:max Em 0=Em:=Int.max_eq_left (by omega))
 (try have agI:max Ya 0=Ya:=Int.max_eq_left (by omega))
 go_enter ew,ntmps117
 go_wp2_with (first|((with_reducible refine bQ (f:=47) rfl ?_);refine gJ (some 9) rfl rfl dE (by kernel_rfl) rfl #[.slice A0 l0.length c0] rfl (by(try simp only[aq,aE,bb]);rfl) ?_;(with_reducible refine(cK.calls _ _ l0 t102 _ ?fJ ?fK A4.out).mono ?_);(case fJ=>repeat (exact nS.out));(case fK=>exact xZ.out);rintro e w7 ⟨ahq,rfl,ho0,hb⟩;refine⟨_,rfl,?_⟩;have dB:=Y1 (Kd.jG ho0 (aC (by repeat ((with_reducible exact HB.out)))));have dN:=Y1 (aU (by repeat ((with_reducible exact HB.out))) hb);clear HB;have aa8:=dB;have HB:=dN;clear dB dN;(try clear hb);(try clear ho0)))
 go_loopg [2,7,13] k (fun kq v2 v7 v13 w'=>∃(tY:Int) (jg:List Int) (yg:Int),v2=.int .u64 tY∧v13=.int .i64 yg∧aG (dH.l0 kq tY jg Ya yg=some r)∧aG (kq<=k)∧aG (Kd.R (Kd.int .u8) 5 w' w.heap.size (fun _=>True) v7 jg)∧aG (cE w.heap.size w w'))
 case atStart=>exact⟨(a2),(t102),(0),(by rfl),(by rfl),H',⟨bj _⟩,⟨by exact aa8.out⟩,⟨by repeat ((with_reducible exact HB.out))⟩⟩
 case round=>
  clear H';obtain⟨tY,jg,yg,rfl,rfl,HA,tX,jF,HB⟩:=hrel;cases gk with
  |zero=>exact absurd HA.out (by simp[dH.l0])
  |succ k1=>
   have H:=HA.out;clear HA;simp only[dH.l0]at H;by_cases c8:yg<Ya
   .rw[if_pos c8]at H;have wI:decide (yg<Ya)=true:=decide_eq_true c8;clear c8;by_cases c9:jg.length<140737488355328
    .rw[if_pos c9]at H;have aeO:=Y1 c9;clear c9;obtain⟨aeP,OV⟩:∃y_:List Int,y_=(jg++[(tY)%256]):=⟨_,rfl⟩
     rw[<-OV]at H;have aa9:=Y1 OV;clear OV;have H':=Y1 H;clear H
     go_wp2_with (first|((with_reducible refine fF (b:=.append) (xs:= #[.tmp 15,.tmp 18]) rfl ?_);at_builtin;refine Kd.tq (Kd.int .u8) (w0:=w) w.heap.size rfl (.tmp 15) (.tmp 18) 40 5 (.int .u8 0) 1 rfl al info5 rfl (by decide) (by omega) u7 jg ((tY)%256) [.int .u8 ((tY)%256)] (fun _=>True) (fun _=>False) rfl rfl ?aP (fun _ hk=>hk.elim) ?aF ?aO ?aB ?aS ?aL ?_;(case aP=>exact rfl);(case aB=>exact(by repeat ((with_reducible exact HB.out))));(case aF=>exact(fun _ _=>trivial));(case aO=>exact(by exact jF.out));(case aS=>exact(aC (by repeat ((with_reducible exact HB.out)))));(case aL=>have:=aeO.out;omega);intro ahr w10 ho hb hg hat;rw[<-aa9.out]at ho;have dB:=Y1 (hb);have dN:=Y1 (ho);clear HB;clear jF;have HB:=dB;have aa_:=dN;clear dB dN;clear ho hb hg hat))
     go_roundg k1
     case measure=>have:=tX.out;omega
     case rel=>exact⟨(tY/256),(aeP),(wrap64 (yg+1)),(by rfl),(by rfl),H',⟨by have:=tX.out;omega⟩,⟨by exact aa_.out⟩,⟨by repeat ((with_reducible exact HB.out))⟩⟩
    .rw[if_neg c9]at H;exact absurd H (by simp)
   .rw[if_neg c8]at H;have wI:decide (yg<Ya)=false:=decide_eq_false c8;clear c8;obtain rfl:=aa H
    go_wp2
    go_ret;exact⟨_,by rfl,by exact jF.out,by repeat ((with_reducible exact HB.out))⟩
theorem aX.grow(n:Int)(h0:0<=n)(h1:n<=140737488355328)(w:ae):
 di ag 138 #[.slice none 0 0,.int .i64 n] w fun e w'=>∃v,e=.returned v∧Kd.R (Kd.int .u8) 5 w' w.heap.size (fun _=>True) v []∧cE w.heap.size w w':=by
 have hw:an.wrap (n-0)=n:=by rw[Int.sub_zero];exact cy _ (by omega)
 by_cases hn:n=0
 .subst hn;go_enter eW,eN
  go_wp2
  go_ret;exact⟨_,rfl,Kd.sW _ _ _ _ _,aw _ _⟩
 .have hp:0<n:=by omega
  have d1:decide (n<0)=false:=by simp;omega
  have d2:decide (0<n)=true:=by simp;omega
  clear hn;obtain⟨i0,hi0,_,hsz0,_⟩:=info_parts info5;go_enter eW,eN
  go_wp2_with (at_builtin;refine Kd.xR (Kd.int .u8) (w0:=w) w.heap.size rfl (.tmp 20) (.tmp 21) 40 3 5 (.int .u8 0) 1 rfl al underlying3 info5 rfl (by decide) (by omega) (.slice none 0 0) [] 0 n (fun _=>True) rfl rfl rfl (fun _ _=>trivial) (Kd.sW _ _ _ _ _) (by omega) (aw _ _) (bj _) (by simp;omega) ?_;intro v1 w1 ho hb hg hat;clear hg hat;obtain⟨A1,c1,rfl⟩:=Kd.dV ho;have HO:=Y1 ho;have HB:=Y1 hb;have hcut:=NJ (P:=ag) 40 5 .i64 al hi0 A1 ([]++dT n.toNat (0:Int)).length c1 0 (by omega) (by omega) (Kd.gV ho).2.1;clear ho hb)
  go_ret;exact⟨_,rfl,by simpa using Kd.XQ HO.out (m:=0) (by omega),HB.out⟩
variable {w:ae}
theorem aX.OW{e:Nat}{A:Option dC}{n:Nat}{xs:List (List Int)}(h:Kd.C (Kd.slice e (Kd.int .u8)) w A n xs)(i:Nat)(hi:i<xs.length):
 ∃ad A' c,A=some ad∧w.cell? (ad.add i)=some (.slice A' (xs[i]).length c)∧(xs[i]).length<=c∧Kd.C (Kd.int .u8) w A' (xs[i]).length xs[i]:=by
 obtain⟨ad,rfl,hc⟩:=h.2.2 (by have:=h.1;omega);obtain⟨cs,hl,⟨A',c,hcs,hle,hC⟩,hcell⟩:=hc i xs[i] (bk hi);subst hcs;have:=hcell 0 _ rfl;refine⟨ad,A',c,rfl,?_,hle,hC⟩;simpa[Kd.slice]using this
def aX.f(l0:List (List Int)):Option (List Int):=if l0.flatten.length<140737488355328 then some l0.flatten else none
theorem aX.part(l0:List (List Int))(i:Nat)(hi:i<l0.length):(l0.take (i+1)).flatten=(l0.take i).flatten++l0[i]:=by
 rw[List.take_succ_eq_append_getElem hi,ek,List.flatten_cons,List.flatten_nil,List.append_nil]
theorem aX.Jr(l0:List (List Int))(i:Nat):(l0.take i).flatten.length<=l0.flatten.length:=by
 have h:=congrArg (fun x=>x.flatten.length) (List.take_append_drop i l0);simp only[ek,cA]at h;omega
theorem aX.calls(A0:Option dC)(c0:Nat)(l0:List (List Int))(r:List Int)(w:ae)(hr0:Kd.C (Kd.slice 5 (Kd.int .u8)) w A0 l0.length l0)(hc0:l0.length<=c0)(h:aX.f l0=some r):
 di ag 131 #[.slice A0 l0.length c0] w fun e w'=>∃vT:dv,e=.returned (vT)∧Kd.R (Kd.int .u8) 5 w' w.heap.size (fun _=>True) vT r∧cE w.heap.size w w':=by
 have hlen:=hr0.2.1;have nS:=Y1 hr0;clear hr0 hc0;unfold aX.f at h;by_cases hl:l0.flatten.length<140737488355328
 .rw[if_pos hl]at h;obtain rfl:=aa h;clear h;have HL:=Y1 hl;clear hl;go_enter func131,ntmps131
  go_wp2
  go_loopg [3,11] l0.length (fun kq v3 v11 w'=>∃k:Nat,kq+k=l0.length∧v3=.int .i64 ((l0.take k).flatten.length:Nat)∧v11=.int .i64 (k:Nat)∧w=w')
  case atStart=>exact⟨0,by omega,by simp,by simp,rfl⟩
  case round=>
   obtain⟨k,hk,rfl,rfl,rfl⟩:=hrel;by_cases hlt:k<l0.length
   .obtain⟨ad,A',c,rfl,hcell,hle,hC⟩:=aX.OW nS.out k hlt;have hp:=aX.part l0 k hlt;have hpl:=aX.Jr l0 (k+1);rw[hp,cA]at hpl;have hq:=congrArg fc hp;rw[cA]at hq;have HP:=Y1 hq;clear hp hq hle hC;have hb:=HL.out;generalize (l0.take k).flatten.length=n at hpl HP⊢;generalize (l0[k]).length=m at hpl HP hcell;have hw1:an.wrap ((n:Int)+m)=(n:Int)+m:=cy _ (by omega);have hn:¬((n:Int)+m<0):=by omega
    go_wp2
    go_ways
    obtain⟨k1,rfl⟩:∃k1,gk=k1+1:=⟨gk-1,by omega⟩
    go_roundg k1
    case rel=>exact⟨k+1,by omega,by rw[HP.out,Int.natCast_add],by simp,rfl⟩
    case measure=>omega
   .obtain rfl:k=l0.length:=by omega
    have hb:=HL.out;have hg:=aX.grow (l0.flatten.length:Nat) (by omega) (by omega) w;rw[dr];have HG:=Y1 hg;clear hg;generalize hN:l0.flatten.length=N at hb HG⊢;have HN:=Y1 hN;clear hN
    go_wp2_with (go_at_call 138;refine HG.out.mono ?_;rintro e w1 ⟨v,rfl,hv,hb1⟩;have HV:=Y1 hv;have HB:=Y1 hb1;clear hv hb1)
    clear hb HG
    go_loopg [6,27] l0.length (fun kq v6 v27 w'=>∃k:Nat,kq+k=l0.length∧v27=.int .i64 (k:Nat)∧aG (Kd.R (Kd.int .u8) 5 w' w.heap.size (fun _=>True) v6 (l0.take k).flatten)∧aG (cE w.heap.size w w'))
    case atStart=>exact⟨0,by omega,by simp,by simpa using HV,HB⟩
    case round=>
     clear HV HB;obtain⟨k,hk,rfl,HV,HB⟩:=hrel;by_cases hlt:k<l0.length
     .obtain⟨ad,A',c,rfl,hcell,hle,hC⟩:=aX.OW (Kd.bM nS.out HB.out) k hlt;have hp:=aX.part l0 k hlt;have HC:=Y1 hC;have HP:=Y1 hp;clear hC hp hle;have hpl:=aX.Jr l0 (k+1);have HPL:=Y1 hpl;clear hpl
      go_wp2_with ((with_reducible refine fF (b:=.append) (xs:= #[.tmp 31,.tmp 32]) rfl ?_);at_builtin;refine Kd.iR (Kd.int .u8) (w0:=w) w.heap.size rfl (.tmp 31) (.tmp 32) 40 5 (.int .u8 0) 1 rfl al info5 rfl (by decide) (by omega) _ (l0.take k).flatten l0[k] _ _ _ (fun _=>True) (fun _=>False) rfl rfl HV.out HC.out (fun _ _ h=>h) (fun _ h=>h.elim) (fun _ _=>trivial) HB.out (aC HB.out) (by have:=HL.out;have:=HPL.out;have h3:=congrArg fc HP.out;rw[cA]at h3;omega) ?_;intro v2 w7 ho hb hg hat;clear hg hat;have HV2:=Y1 ho;have HB2:=Y1 hb;clear ho hb)
      obtain⟨k1,rfl⟩:∃k1,gk=k1+1:=⟨gk-1,by omega⟩
      go_roundg k1
      case rel=>exact⟨k+1,by omega,by simp,⟨by rw[HP.out];exact HV2.out⟩,HB2⟩
      case measure=>omega
     .obtain rfl:k=l0.length:=by omega
      rw[dr]at HV;obtain⟨A1,c1,rfl⟩:=Kd.dV HV.out
      go_wp2
      go_ret;exact⟨_,rfl,HV.out,HB.out⟩
 .rw[if_neg hl]at h;cases h
def av.come(zs:List Int)(k:Nat):List (Int×Int):=(fg k).map fun (j:Nat)=>((zs.length:Int)-1-j,zs.getD (zs.length-1-j) 0)
theorem av.jK(zs:List Int)(k:Nat):av.come zs (k+1)=av.come zs k++[((zs.length:Int)-1-k,zs.getD (zs.length-1-k) 0)]:=by simp[av.come,List.range_succ]
theorem av.jL(zs:List Int)(k:Nat):(av.come zs k).length=k:=by simp[av.come]
def av.Kp(n₀ Bs:Nat)(A B:ae):Prop:=cE n₀ A B∧∀v,A.cell? ⟨Bs,0,none⟩=some v->B.cell? ⟨Bs,0,none⟩=some v
variable {Bs n₀:Nat}
theorem av.Cn{A B C:ae}(h:av.Kp n₀ Bs A B)(k:av.Kp n₀ Bs B C):av.Kp n₀ Bs A C:=⟨h.1.trans k.1,fun v hv=>k.2 v (h.2 v hv)⟩
theorem av.OX(hn:n₀<=w.heap.size)(W:ae)(l:Nat)(o o':Obj)(hl:w.heap.size<=l)(h:W.heap[l]? =some o)(hc:o.isCells=false)(hw:o.isWalk=false):av.Kp n₀ Bs W (W.putObj l o'):=
 ⟨belowK_b hn W l o o' hl h hc hw,fun v hv=>cell_kept hv (grownBy_putObj' W l o') (fun r e=>by cases e;exact⟨_,h,hc⟩)⟩
section
attribute [local go_sem] Oper.semAt_some
theorem av.abb(F:Fence)(n:Nat)(h25:F.fn 128)(hro:F.round=none)(hn:1<=n)(l Bs n₀ cap len:Nat)(ad:dC)(zs:List Int)(hlen:zs.length=len)(jh:len<=140737488351232)(hb:ad.block<n₀)(J Jx:List (Int×Int)->ae->Prop)(hY:∀pre x W,J pre W->pre.length<len->YieldAt F (n-1) ag l #[.int .i64 x.1,.int .u8 x.2] W fun e W'=>   (e=.returned (.bool true)∧J (pre++[x]) W'∧av.Kp n₀ Bs W W')∨(e=.returned (.bool false)∧Jx (pre++[x]) W'))(W:ae)(pI:W.cell? ⟨Bs,0,none⟩=some (.slice (some ad) len cap))(hc:∀j,j<len->W.cell? (ad.add j)=some (.int .u8 (zs.getD j 0)))(h0:J [] W):
 CallsIn F n ag 128 #[.func (.yield l) #[] #[],.pointer (some ⟨Bs,0,none⟩)] W fun e W'=>(∃v,e=.returned v)∧
  ((∃ys,ys=av.come zs len∧J ys W')∨(∃pre,(∃k,k<=len∧pre=av.come zs k)∧Jx pre W')):=by
 refine callsIn_of_wp ey rfl h25 ?_ hro;simp only[eQ,cU,ax,bz,Nat.reduceAdd,Nat.reduceSub,cF,cG,cW,cJ,dd,c_];have hw1:an.wrap ((len:Int)-1)=(len:Int)-1:=cy _ (by omega)
 gi_wp2
 gi_loopw [3] (fun i wr=>∃(k:Nat) (x:Int),k<=len∧aG (x=(len:Int)-1-k)∧ -1<=x∧x<len∧i=.int .i64 x∧J (av.come zs k) wr∧aG (av.Kp n₀ Bs W wr))
  (fun i _=>(intOf i+1).toNat)
 case atStart=>exact⟨0,(len:Int)-1,Nat.zero_le _,⟨by simp⟩,by omega,by omega,by simp,by simpa[av.come]using h0,⟨aw _ _,fun _ h=>h⟩⟩
 case round=>
  obtain⟨k,x,hk,hx,hx0,hx1,rfl,hJs,hnx⟩:=hrel;have hBx:=hnx.out.2 _ pI;have HJ:=Y1 hJs;clear hJs;by_cases hlt:0<=x
  .obtain⟨v,hv⟩:=ex (zs.getD (len-1-k) 0)
   obtain⟨fn,tmps,assign,body,hy,hR⟩:=hY _ (x,v) wr HJ.out (by rw[av.jL];have:=hx.out;omega);dsimp only at hy;have hcx:wr.cell? (ad.add x.toNat)=some (.int .u8 v):=by
    rw[hv,show x.toNat=len-1-k by have:=hx.out;omega];exact(hnx.out.1.cell (p:=ad.add (len-1-k)) (by rw[add_block];exact hb)).trans (hc _ (by have:=hx.out;omega))
   have HV:=Y1 hv;clear hv hc;have hw2:an.wrap (x-1)=x-1:=cy _ (by omega);have hl2:x.toNat<len:=by omega
   gi_wp2
   refine hR.mono ?_;rintro e W3 (⟨rfl,hJ3,hk3⟩|⟨rfl,hJx3⟩)
   .have hBy:=hk3.2 _ hBx;have R5:=Y1 hk3;clear hk3
    gi_wp2
    go_roundw
    case rel=>exact⟨k+1,x-1,by have:=hx.out;omega,⟨by have:=hx.out;omega⟩,by omega,by omega,rfl,by
     rw[av.jK,hlen,<-hx.out,<-HV.out];exact hJ3,⟨av.Cn hnx.out R5.out⟩⟩
    case measure=>simp[intOf];omega
   .gi_wp2
    refine bodyPost_ret (results_none rfl _ _ _) rfl ?_;exact⟨⟨_,rfl⟩,.inr ⟨_,⟨k+1,by have:=hx.out;omega,by rw[av.jK,hlen,<-hx.out,<-HV.out]⟩,hJx3⟩⟩
  .obtain rfl:k=len:=by have:=hx.out;omega
   gi_wp2
   go_end0
   exact⟨⟨_,rfl⟩,.inl HJ.out⟩
theorem av.abd(F:Fence)(n:Nat)(h25:F.fn 128)(hro:F.round=none)(l Bs c:Nat)(A:Option dC)(J:List (Int×Int)->ae->Prop)(W:ae)(pI:W.cell? ⟨Bs,0,none⟩=some (.slice A 0 c))(h0:J [] W):
 CallsIn F n ag 128 #[.func (.yield l) #[] #[],.pointer (some ⟨Bs,0,none⟩)] W fun e W'=>(∃v,e=.returned v)∧J [] W':=by
 refine callsIn_of_wp ey rfl h25 ?_ hro;simp only[eQ,cU,ax,bz,Nat.reduceAdd,Nat.reduceSub,cF,cG,cW,cJ,dd,c_]
 gi_wp2
 gi_loopw [3] (fun i wr=>i=.int .i64 (-1)∧J [] wr) (fun _ _=>0)
 case atStart=>exact⟨by simp,h0⟩
 case round=>
  obtain⟨rfl,hJs⟩:=hrel
  gi_wp2
  go_end0
  exact⟨⟨_,rfl⟩,hJs⟩
theorem av.back(F:Fence)(n:Nat)(R4:F.fn 115)(hro:F.round=none)(a:Option dC)(len cap:Nat)(w:ae):
 CallsIn F n ag 115 #[.slice a len cap] w fun e w'=>e=.returned (.func (.func 128) #[] #[.pointer (some ⟨w.heap.size,0,none⟩)])∧w'=w.alloc (.cells #[.slice a len cap] 40):=by
 refine callsIn_of_wp func115 rfl R4 ?_ hro;simp only[ntmps115,cU,ax,bz,Nat.reduceAdd,Nat.reduceSub,cF,cG,cW,cJ,dd,c_]
 gi_wp2
 go_ret;exact⟨rfl,rfl⟩
theorem av.stops(F:Fence)(n:Nat)(h25:F.fn 128)(hro:F.round=none)(hn:1<=n)(Bs n₀ cap:Nat)(A:Option dC)(zs:List Int)(w:ae)(pI:Bs<w.heap.size)(hn₀:n₀<=w.heap.size)(jh:zs.length<=140737488351232)(hc:w.cell? ⟨Bs,0,none⟩=some (.slice A zs.length cap))(hcs:∀W,cE n₀ w W->Kd.C (Kd.int .u8) W A zs.length zs)(hlt:∀ad,A=some ad->ad.block<n₀):
 SeqStopsK F n ag 128 #[.pointer (some ⟨Bs,0,none⟩)] (fun x:Int×Int=> #[a_ .i64 x.1,a_ .u8 x.2]) (av.Kp n₀ Bs) (fun ys=>ys=av.come zs zs.length)
  (fun pre=>∃k,k<=zs.length∧pre=av.come zs k) zs.length w:=fun l J Jx W hW _ _ hY h0=>by
 have hc':=(hW.cell (p:=⟨Bs,0,none⟩) pI).trans hc;by_cases hz:0<zs.length
 .have hC:=hcs W (hW.mono hn₀);obtain⟨ad,rfl,hcell⟩:=hC.2.2 hz;refine av.abb F n h25 hro hn l Bs n₀ cap zs.length ad zs rfl jh (hlt ad rfl) J Jx hY W hc' (fun j hj=>?_) h0;obtain⟨c,hl,hk,hcc⟩:=hcell j _ (bk hj);have hk':c=[.int .u8 zs[j]]:=hk;have:=hcc 0 (.int .u8 zs[j]) (by rw[hk'];rfl);rw[cH,bk hj];simpa[Kd.int,Kd.scalar]using this
 .have hz0:zs=[]:=List.eq_nil_of_length_eq_zero (by omega);subst hz0;exact(av.abd F n h25 hro l Bs cap A J W hc' h0).mono fun e W' ⟨he,hj⟩=>⟨he,.inl ⟨_,rfl,by simpa[av.come]using hj⟩⟩
def av.step(n c:Int):Int:=de .or .u64 (cq.wrap (n*256)) (cq.wrap c)
def av.num(l:List Int):Int:=l.reverse.foldl av.step 0
def av.f(l0:List Int)(a1 a2:Int):Option (Int×Bool):=
 if a2<1∨8<a2∨a1<0∨(l0.length:Int)-a2<a1 then some (0,false)else some (av.num ((l0.take (a1+a2).toNat).drop a1.toNat),true)
def av.sofar(pre:List (Int×Int)):Int:=pre.foldl (fun n x=>av.step n x.2) 0
theorem av.GQ(pre:List (Int×Int))(x:Int×Int):av.sofar (pre++[x])=av.step (av.sofar pre) x.2:=by simp[av.sofar]
theorem av.GR(zs:List Int):av.sofar (av.come zs zs.length)=av.num zs:=by
 have e:zs.reverse=(av.come zs zs.length).map Prod.snd:=by
  apply List.ext_getElem
  .simp[av.come]
  .intro i h1 h2;have hi:i<zs.length:=by simpa using h1
   simp only[av.come,List.getElem_reverse,List.map_map,List.getElem_map,List.getElem_range,Function.comp_apply];rw[cH,bk (by omega)];rfl
 unfold av.num av.sofar;rw[e,List.foldl_map]
theorem av.ok(A0:Option dC)(c0:Nat)(l0:List Int)(a1 a2:Int)(w:ae)(hr0:Kd.C (Kd.int .u8) w A0 l0.length l0)(hc0:l0.length<=c0)(h1:1<=a2)(h2:a2<=8)(h3:0<=a1)(h4:a1+a2<=l0.length):
 di ag 94 #[.slice A0 l0.length c0,.int .i64 a1,.int .i64 a2] w fun e w'=>e=.returned (.tuple #[.int .u64 (av.num ((l0.take (a1+a2).toNat).drop a1.toNat)),.bool true])∧cE w.heap.size w w':=by
 have hb0:=hr0.2.1;obtain⟨i0,hi0,_,hsz0,_⟩:=info_parts info5;obtain⟨A',hcut,hA,hC⟩:=sU (P:=ag) (a_ .u8) 0 40 5 .i64 .i64 al hi0 hsz0 A0 c0 l0 a1 (a1+a2) h3 (by omega) h4 hc0;have hR:Kd.C (Kd.int .u8) w A' ((l0.take (a1+a2).toNat).drop a1.toNat).length ((l0.take (a1+a2).toNat).drop a1.toNat):=Kd.dP (h1:=fun _=>rfl) (hA w (Kd.fB hr0));have hl:((l0.take (a1+a2).toNat).drop a1.toNat).length=a2.toNat:=by rw[ca,ao];omega
 generalize (l0.take (a1+a2).toNat).drop a1.toNat=zs at hcut hR hl⊢;have hlt:∀ad,A'=some ad->ad.block<w.heap.size:=by
  intro ad e;obtain⟨ad',e',hcc⟩:=hR.2.2 (by omega);obtain rfl:ad=ad':=by rw[e]at e';exact aa e'
  obtain⟨c,hcl,hk,hcell⟩:=hcc 0 _ (bk (by omega));have hk':c=[.int .u8 zs[0]]:=hk;have:=World.block_lt_of_cell? w _ (hcell 0 (.int .u8 zs[0]) (by rw[hk'];rfl));rwa [add_block]at this
 clear hA hr0 hi0 hsz0 hC;have HR:=Y1 hR;have HL:=Y1 hl;have HLT:=Y1 hlt;clear hR hl hlt;have hw1:an.wrap (a1+a2)=a1+a2:=cy _ (by omega);have hw2:an.wrap ((l0.length:Int)-a2)=(l0.length:Int)-a2:=cy _ (by omega);have d1:decide (a2<1)=false:=by simp;omega
 have d2:decide (8<a2)=false:=by simp;omega
 have d3:decide (a1<0)=false:=by simp;omega
 have d4:decide ((l0.length:Int)-a2<a1)=false:=by simp;omega
 refine(callsIn_wide (n:=6)).1 ?_;refine callsIn_of_wp_marks cI rfl trivial ?_ rfl;simp only[df,cU,ax,bz,Nat.reduceAdd,Nat.reduceSub,cF,cG,cW,cJ,dd,c_]
 gi_wp2_with (refine⟨trivial,?_⟩;gi_at_call 115;refine(av.back Fence.wide _ trivial rfl _ _ _ _).mono ?_;rintro e w' ⟨rfl,rfl⟩)
 have bS:=Boxed.new w 36 (.int .u64 0);have bN:=Boxed.new (w.alloc (.cells #[.int .u64 0] 36)) 40 (.slice A' zs.length (c0-a1.toNat));rw[World.size_alloc]at bN;have hB0:cE w.heap.size w ((w.alloc (.cells #[.int .u64 0] 36)).alloc (.cells #[.slice A' zs.length (c0-a1.toNat)] 40)):=((aw _ w).alloc (bj _) _).alloc (by simp) _;refine wpIn_rangeFunc_ownG (F:=Fence.wide) rfl (by decide) (gf:=128) (lb:= #[.pointer (some ⟨w.heap.size+1,0,none⟩)]) rfl trivial (enters_of ey (by kernel_rfl) rfl)
  (av.stops Fence.wide (6-1) trivial rfl (by decide) (w.heap.size+1) w.heap.size (c0-a1.toNat) A' zs _ (by simp) (by simp;omega) (by have:=HL.out;omega) bN.cell (fun W hW=>Kd.bM HR.out (hB0.trans hW)) HLT.out) av.Cn (av.OX (by simp;omega)) (aw _ _) (fun _=>rfl)
  (fun pre W=>(W.cell? ⟨w.heap.size,0,none⟩=some (.int .u64 (av.sofar pre))∧W.frozen? ⟨w.heap.size,0,none⟩=false)∧cE w.heap.size w W)
  (fun _ _ _=>False)
  (OwnFrom.and (Own.from (fun s A B row hs hg hr=>⟨cell_kept hs.1 hg hr,(frozen_kept hs.1 hg hr).trans hs.2⟩) _) (ownFrom_below (bj _) (by simp;omega)))
  (fun _ _ _ _ _ hs _ _=>hs)
  ⟨⟨(bS.alloc _).cell,(bS.alloc _).frozen⟩,hB0⟩
  (fun x=>{tmps:= #[ef A0 l0.length c0,a_ an a1,a_ an a2,undef,undef,undef,
   a_ cq 0,cx false,Value.pointer (some {block:=w.heap.size,off:=0}),
   undef,.int .u8 x.2,a_ an a2,cx false,cx false,a_ an a2,
   cx false,cx false,cx false,a_ an a1,cx false,
   cx false,cx false,a_ an a1,ef A0 l0.length c0,
   a_ an l0.length,a_ an a2,a_ an ((l0.length:Int)-a2),
   cx false,cx false,ef A0 l0.length c0,a_ an a1,
   a_ an a1,a_ an a2,a_ an (a1+a2),
   ef A' zs.length (c0-a1.toNat),.func (.func 128) #[] #[.pointer (some ⟨w.heap.size+1,0,none⟩)],.int .i64 x.1,.int .u8 x.2,undef,undef,undef,undef,undef,undef],defers:=[]}) ?assign ?body ?done ?stop
 case assign=>
  intro l x W K hK
  gi_wp2
  exact hK
 case body=>
  rintro l pre x W ⟨⟨hc,hf⟩,hB⟩ _
  gi_wp2
  exact⟨(KeepsOthers.setCell _ _ _).from _,⟨(aw w.heap.size W).setCell (p:=⟨w.heap.size,0,none⟩) (bj _) _,fun v hv=>by
   rw[<-hv];exact World.cell?_of_block (Below.heap_setCell W ⟨w.heap.size,0,none⟩ _ (w.heap.size+1) (by simp))⟩,
   ⟨by rw[av.GQ];exact World.cell?_setCell_same' _ _ _ (by rw[hc];rfl),by rw[World.frozen?_setCell];exact hf⟩,hB.setCell (p:=⟨w.heap.size,0,none⟩) (bj _) _⟩
 case done=>
  rintro D ys W hD rfl ⟨⟨hc,_⟩,hB⟩ hK
  gi_wp2
  refine⟨by simp,.inl ⟨_,_,rfl,run_takeDeferred hK,?_⟩⟩;refine⟨_,results_tmp2 rfl _ _ _,?_,hB.trans (belowK_b (w:=w) (bj _) W D _ _ (by simp at hD;omega) hK rfl rfl)⟩;rw[av.GR];rfl
 case stop=>
  rintro D c pre W _ _ h _;exact h.elim
end
theorem av.calls(A0:Option dC)(c0:Nat)(l0:List Int)(a1:Int)(a2:Int)(r1:Int)(r2:Bool)(w:ae)(hr0:Kd.C (Kd.int .u8) w A0 l0.length l0)(hc0:l0.length<=c0)(h:av.f l0 a1 a2=some (r1,r2)):
 di ag 94 #[.slice A0 l0.length c0,.int .i64 a1,.int .i64 a2] w fun e w'=>e=.returned (.tuple #[.int .u64 r1,.bool r2])∧cE w.heap.size w w':=by
 unfold av.f at h;have hb0:=hr0.2.1;by_cases g1:a2<1
 .rw[if_pos (by omega)]at h;simp only[ar,ba]at h;obtain⟨rfl,rfl⟩:=h;clear hr0;go_enter cI,df
  go_wp2
  go_ret2
  exact⟨rfl,aw _ _⟩
 by_cases g2:8<a2
 .rw[if_pos (by omega)]at h;simp only[ar,ba]at h;obtain⟨rfl,rfl⟩:=h;clear hr0;go_enter cI,df
  go_wp2
  go_ret2
  exact⟨rfl,aw _ _⟩
 by_cases g3:a1<0
 .rw[if_pos (by omega)]at h;simp only[ar,ba]at h;obtain⟨rfl,rfl⟩:=h;clear hr0;go_enter cI,df
  go_wp2
  go_ret2
  exact⟨rfl,aw _ _⟩
 have hw2:an.wrap ((l0.length:Int)-a2)=(l0.length:Int)-a2:=cy _ (by omega);by_cases g4:(l0.length:Int)-a2<a1
 .rw[if_pos (by omega)]at h;simp only[ar,ba]at h;obtain⟨rfl,rfl⟩:=h;clear hr0;have d4:decide ((l0.length:Int)-a2<a1)=true:=decide_eq_true g4;go_enter cI,df
  go_wp2
  go_ret2
  exact⟨rfl,aw _ _⟩
 .rw[if_neg (by omega)]at h;simp only[ar,ba]at h;obtain⟨rfl,rfl⟩:=h;exact av.ok A0 c0 l0 a1 a2 w hr0 hc0 (by omega) (by omega) (by omega) (by omega)
def bW.j0:Nat->List Int->Int->Bool->Option (List Int×Int×Int)
 |0,_,_,_=>none
 |k+1,x0,x7,x30=>if x30=true then(some (([]:List Int),0,2))else((av.f x0 x7 4).bind fun abe=>(if 0<=x7 then(if x7<=(x0.length:Int)then((bK.f k (x0.take (x7:Int).toNat)).bind fun t116=>(if((abe.1)%4294967296)=t116 then(if 2<=x7 then((cK.f ((x0.take (x7:Int).toNat).drop 2)).bind fun t118=>(some (t118,wrap64 (x7+4),0)))else(none))else(some (([]:List Int),0,3))))else(none))else(none)))
def bW.f(k:Nat)(l0:List Int):Option (List Int×Int×Int):=(av.f l0 0 2).bind fun Aw=>(if Aw.2=true then(if Aw.1>1000 then(bW.j0 k l0 (wrap64 (2+(wrap64 (Aw.1)))) true)else(bW.j0 k l0 (wrap64 (2+(wrap64 (Aw.1)))) (decide ((l0.length:Int)<(wrap64 ((wrap64 (2+(wrap64 (Aw.1))))+4))))))else(bW.j0 k l0 (wrap64 (2+(wrap64 (Aw.1)))) true))
theorem bW.calls(k:Nat)(A0:Option dC)(c0:Nat)(l0:List Int)(r1:List Int)(r2:Int)(r3:Int)(w:ae)(hr0:Kd.C (Kd.int .u8) w A0 l0.length l0)(hc0:l0.length<=c0)(h:bW.f k l0=some (r1,r2,r3)):
 di ag 93 #[.slice A0 l0.length c0] w fun e w'=>∃vT:dv,e=.returned (.tuple #[vT,.int .i64 r2,.int .i64 r3])∧Kd.R (Kd.int .u8) 5 w' w.heap.size (fun _=>True) vT r1∧cE w.heap.size w w':=by
 have nS:=Y1 hr0;have xZ:=Y1 hc0;clear hr0 hc0;have HB:=Y1 (aw w.heap.size w);have H:=h;clear h;unfold bW.f at H;replace H:=af.mp H;obtain⟨⟨t111,t112⟩,OY,H⟩:=H;dsimp only at H;have A2:=Y1 OY;clear OY;have Te:=Y1 H;clear H;go_enter fe,ntmps93
 go_upto_region 3 with(first|((with_reducible refine bQ (f:=94) rfl ?_);refine gJ (some 12) rfl rfl cI (by kernel_rfl) rfl #[.slice A0 l0.length c0,.int .i64 0,.int .i64 2] rfl (by(try simp only[aq,aE,bb]);rfl) ?_;(with_reducible refine(av.calls _ _ l0 0 2 t111 t112 _ ?fJ ?fK A2.out).mono ?_);(case fJ=>repeat (exact nS.out));(case fK=>exact xZ.out);rintro e w4 ⟨rfl,hb⟩;refine⟨_,rfl,?_⟩;have dB:=Y1 (aU (by repeat ((with_reducible exact HB.out))) hb);clear HB;have HB:=dB;clear dB;(try clear hb)))
 go_cut [30] (fun v30 wc=>∃(kq:Nat) (Js:Bool),v30=.bool Js∧aG (bW.j0 kq l0 (wrap64 (2+(wrap64 (t111)))) Js=some (r1,r2,r3))∧aG (kq<=k)∧aG (cE w.heap.size w wc))
 case first=>
  have H:=Te.out;clear Te;by_cases c5:t112=true
  .subst c5;rw[if_pos rfl]at H;by_cases c6:t111>1000
   .rw[if_pos c6]at H;have pJ:decide (1000<t111)=true:=decide_eq_true c6;clear c6
    (skip)
    have H':=Y1 H;clear H
    go_wp2
    go_meet
    case rel=>exact⟨_,(true),(by rfl),H',⟨by omega⟩,⟨by repeat ((with_reducible exact HB.out))⟩⟩
   .rw[if_neg c6]at H;have pJ:decide (1000<t111)=false:=decide_eq_false c6;clear c6
    (skip)
    have H':=Y1 H;clear H
    go_wp2
    go_meet
    case rel=>exact⟨_,(decide ((l0.length:Int)<(wrap64 ((wrap64 (2+(wrap64 (t111))))+4)))),(by rfl),H',⟨by omega⟩,⟨by repeat ((with_reducible exact HB.out))⟩⟩
  .replace c5:=cX.mpr c5;subst c5;rw[if_neg (show ¬(false=true) by decide)]at H;have H':=Y1 H;clear H
   go_wp2
   go_meet
   case rel=>exact⟨_,(true),(by rfl),H',⟨by omega⟩,⟨by repeat ((with_reducible exact HB.out))⟩⟩
 case rest=>
  clear Te;obtain⟨kq,Js,rfl,HA,HJ2,HB⟩:=hcut;cases kq with
  |zero=>exact absurd HA.out (by simp[bW.j0])
  |succ kj2=>
   have H:=HA.out;clear HA;simp only[bW.j0]at H;by_cases c7:Js=true
   .subst c7;rw[if_pos rfl]at H;simp only[ar,ba]at H;obtain⟨rfl,rfl,rfl⟩:=H
    go_wp2
    go_ret3
    exact⟨_,by rfl,by exact Kd.sW _ _ _ _ _,by repeat ((with_reducible exact HB.out))⟩
   .replace c7:=cX.mpr c7;subst c7;rw[if_neg (show ¬(false=true) by decide)]at H;replace H:=af.mp H;obtain⟨⟨t113,t114⟩,A80,H⟩:=H;dsimp only at H;have A8:=Y1 A80;clear A80;obtain⟨qN,OZ⟩:∃j_:Int,(wrap64 (2+(wrap64 (t111))))=j_:=⟨_,rfl⟩
    rw[OZ]at H
    (try rw[OZ]at A8)
    have agJ:(an.wrap (2+(wrap64 (t111))))=qN:=(gK _).trans OZ;by_cases c10:0<=(qN)
    .rw[if_pos c10]at H;have En:=eq_true c10;have O4:decide (0<=(qN))=true:=decide_eq_true c10;clear c10;by_cases c11:(qN)<=(l0.length:Int)
     .rw[if_pos c11]at H;have Ay:=eq_true c11;have abf:decide ((qN)<=(l0.length:Int))=true:=decide_eq_true c11;clear c11;replace H:=af.mp H;obtain⟨t116,O5,H⟩:=H;have A12:=Y1 O5;clear O5;by_cases c13:((t113)%4294967296)=t116
      .rw[if_pos c13]at H;have Az:(((t113)%4294967296)==t116)=true:=beq_iff_eq.mpr c13;have O6:(((t113)%4294967296) !=t116)=false:=bne_eq_false_iff_eq.mpr c13;clear c13;by_cases c14:2<=(qN)
       .rw[if_pos c14]at H;have rJ:=eq_true c14;have WE:decide (2<=(qN))=true:=decide_eq_true c14;clear c14;have Jt:=eq_true (of_decide_eq_true (by(with_reducible assumption)):(qN)<=(l0.length:Int));replace H:=af.mp H;obtain⟨t118,abg,H⟩:=H;have A16:=Y1 abg;clear abg;simp only[ar,ba]at H;obtain⟨rfl,rfl,rfl⟩:=H
        go_wp2_with (first|((with_reducible refine bQ (f:=94) rfl ?_);refine gJ (some 34) rfl rfl cI (by kernel_rfl) rfl #[.slice A0 l0.length c0,.int .i64 (qN),.int .i64 4] rfl (by(try simp only[aq,aE,bb]);(simp only[OZ];rfl)) ?_;(with_reducible refine(av.calls _ _ l0 (qN) 4 t113 t114 _ ?fJ ?fK A8.out).mono ?_);(case fJ=>repeat (exact(Kd.bM nS.out HB.out)));(case fK=>exact xZ.out);rintro e w17 ⟨rfl,hb⟩;refine⟨_,rfl,?_⟩;have dB:=Y1 (aU (by repeat ((with_reducible exact HB.out))) hb);clear HB;have HB:=dB;clear dB;(try clear hb);obtain⟨ahs,WG,_,WH,_⟩:=info_parts info5;obtain⟨aeQ,abh,abj⟩:=rG (P:=ag) (a_ .u8) 0 40 5 .i64 al WG WH A0 c0 l0 (qN) (of_decide_eq_true (by(with_reducible assumption))) (of_decide_eq_true (by(with_reducible assumption))) xZ.out;(try have abk:=Y1 (show(fh (((qN)):Int).toNat (l0)).length=(((qN)):Int).toNat from by(rw[ao];exact dy (by have z_:((qN):Int)<=((l0).length:Int):=of_decide_eq_true (by(with_reducible assumption));omega))));have O7:=Y1 (Kd.dP (h1:=fun _=>rfl) (abh _ (Kd.fB nS.out)));have O8:=Y1 abj;clear abh abj WG WH)|((with_reducible refine bQ (f:=114) rfl ?_);refine gJ (some 42) rfl rfl et (by kernel_rfl) rfl #[.slice A0 (l0.take ((qN):Int).toNat).length c0] rfl (by(try simp only[aq,aE,bb]);(rw[show(l0.take ((qN):Int).toNat).length=(qN).toNat from(by exact abk.out)]<;>rfl)) ?_;(with_reducible refine(bK.calls kj2 _ _ (l0.take ((qN):Int).toNat) t116 _ ?fJ ?fK A12.out).mono ?_);(case fJ=>repeat (exact(Kd.bM O7.out HB.out)));(case fK=>exact O8.out);rintro e w' ⟨rfl,⟨nd,rfl⟩⟩;refine⟨_,rfl,?_⟩;obtain⟨aht,WI,_,WJ,_⟩:=info_parts info5;obtain⟨A19,aeR,abl,abm⟩:=sU (P:=ag) (a_ .u8) 0 40 5 .i64 .i64 al WI WJ A0 c0 l0 2 (qN) (by omega) (by exact of_decide_eq_true (by(with_reducible assumption))) (of_decide_eq_true (by(with_reducible assumption))) xZ.out;have abn:=Y1 (Kd.dP (h1:=fun _=>rfl) (abl _ (Kd.fB nS.out)));have abo:=Y1 abm;clear abl abm WI WJ)|((with_reducible refine bQ (f:=47) rfl ?_);refine gJ (some 47) rfl rfl dE (by kernel_rfl) rfl #[.slice A19 ((l0.take ((qN):Int).toNat).drop 2).length (c0-2)] rfl (by(try simp only[aq,aE,bb]);(rw[show((l0.take ((qN):Int).toNat).drop 2).length=((qN).toNat-2)from(by rw[ca,ao];have h_:((qN):Int)<=(l0.length:Int):=of_decide_eq_true (by(with_reducible assumption));omega)]<;>rfl)) ?_;(with_reducible refine(cK.calls _ _ ((l0.take ((qN):Int).toNat).drop 2) t118 _ ?fJ ?fK A16.out).mono ?_);(case fJ=>repeat (exact(Kd.bM abn.out (by repeat ((with_reducible first|exact HB.out|apply aZ))))));(case fK=>exact abo.out);rintro e w20 ⟨ahu,rfl,ho0,hb⟩;refine⟨_,rfl,?_⟩;have dB:=Y1 (Kd.jG ho0 (aC (by repeat ((with_reducible first|exact HB.out|apply aZ)))));have dN:=Y1 (aU (by repeat ((with_reducible first|exact HB.out|apply aZ))) hb);clear HB;have abp:=dB;have HB:=dN;clear dB dN;(try clear hb);(try clear ho0)))
        go_ret3
        exact⟨_,by rfl,by exact abp.out,by repeat ((with_reducible exact HB.out))⟩
       .rw[if_neg c14]at H;exact absurd H (by simp)
      .rw[if_neg c13]at H;have Az:(((t113)%4294967296)==t116)=false:=beq_eq_false_iff_ne.mpr c13;have O6:(((t113)%4294967296) !=t116)=true:=bne_iff_ne.mpr c13;simp only[ar,ba]at H;obtain⟨rfl,rfl,rfl⟩:=H
       go_wp2_with (first|((with_reducible refine bQ (f:=94) rfl ?_);refine gJ (some 34) rfl rfl cI (by kernel_rfl) rfl #[.slice A0 l0.length c0,.int .i64 (qN),.int .i64 4] rfl (by(try simp only[aq,aE,bb]);(simp only[OZ];rfl)) ?_;(with_reducible refine(av.calls _ _ l0 (qN) 4 t113 t114 _ ?fJ ?fK A8.out).mono ?_);(case fJ=>repeat (exact(Kd.bM nS.out HB.out)));(case fK=>exact xZ.out);rintro e w21 ⟨rfl,hb⟩;refine⟨_,rfl,?_⟩;have dB:=Y1 (aU (by repeat ((with_reducible exact HB.out))) hb);clear HB;have HB:=dB;clear dB;(try clear hb);obtain⟨ahv,WK,_,WL,_⟩:=info_parts info5;obtain⟨aeS,abq,abr⟩:=rG (P:=ag) (a_ .u8) 0 40 5 .i64 al WK WL A0 c0 l0 (qN) (of_decide_eq_true (by(with_reducible assumption))) (of_decide_eq_true (by(with_reducible assumption))) xZ.out;(try have abt:=Y1 (show(fh (((qN)):Int).toNat (l0)).length=(((qN)):Int).toNat from by(rw[ao];exact dy (by have z_:((qN):Int)<=((l0).length:Int):=of_decide_eq_true (by(with_reducible assumption));omega))));have O7:=Y1 (Kd.dP (h1:=fun _=>rfl) (abq _ (Kd.fB nS.out)));have O8:=Y1 abr;clear abq abr WK WL)|((with_reducible refine bQ (f:=114) rfl ?_);refine gJ (some 42) rfl rfl et (by kernel_rfl) rfl #[.slice A0 (l0.take ((qN):Int).toNat).length c0] rfl (by(try simp only[aq,aE,bb]);(rw[show(l0.take ((qN):Int).toNat).length=(qN).toNat from(by exact abt.out)]<;>rfl)) ?_;(with_reducible refine(bK.calls kj2 _ _ (l0.take ((qN):Int).toNat) t116 _ ?fJ ?fK A12.out).mono ?_);(case fJ=>repeat (exact(Kd.bM O7.out HB.out)));(case fK=>exact O8.out);rintro e w' ⟨rfl,⟨nd,rfl⟩⟩;refine⟨_,rfl,?_⟩))
       go_ret3
       exact⟨_,by rfl,by exact Kd.sW _ _ _ _ _,by repeat ((with_reducible first|exact HB.out|apply aZ))⟩
     .rw[if_neg c11]at H;exact absurd H (by simp)
    .rw[if_neg c10]at H;exact absurd H (by simp)
end
end Go.Proofs.YtlhhcnknclnlaaaGreatDoor.iH
namespace Go.Proofs.YtlhhcnknclnlaaaGreatDoor.Oct
open Go.RowKit Go.Proofs.YtlhhcnknclnlaaaGreatDoor.iH Go.Proofs.ah.aN Go.Proofs.ah.bA Go.Proofs.ah.dx
theorem Eo{l:List Int}(h:l.length<140737488355328):cK.f l=some l:=if_pos h
theorem O9(m:Nat):∀(k:Nat) (x:Int) (acc:List Int) (i t:Nat),i+m=t->t<=8->acc.length+m<140737488355328->m<k->
 dH.l0 k x acc (t:Int) (i:Int)=some (acc++le m x):=by
 induction m with
 |zero=>
  intro k x acc i t ht h8 hl hk;obtain⟨k,rfl⟩:∃m,k=m+1:=⟨k-1,by omega⟩
  simp only[dH.l0];rw[if_neg (by omega)];simp[le]
 |succ m ih=>
  intro k x acc i t ht h8 hl hk;obtain⟨k,rfl⟩:∃m,k=m+1:=⟨k-1,by omega⟩
  simp only[dH.l0];rw[if_pos (by omega),if_pos (by omega),dW (by omega) (by omega),show((i:Int)+1)=((i+1:Nat):Int) by omega,
   ih k (x/256) (acc++[x%256]) (i+1) t (by omega) h8 (by simp;omega) (by omega)]
  simp[le]
def sz(a:Int):Nat:=(mn (mx a 0) 8).toNat
theorem abu(a:Int):sz a<=8:=by unfold sz mn mx;omega
theorem GU(k:Nat)(l:List Int)(a x:Int)(hl:l.length+8<140737488355328)(hk:8<k):dH.f k l a x=some (l++le (sz a) x):=by
 unfold dH.f;rw[Eo (by omega)];simp only[cd];have h:=abu a;have e:mn (mx a 0) 8=((sz a:Nat):Int):=by unfold sz mn mx;omega
 rw[e];exact O9 (sz a) k x l 0 (sz a) (by omega) h (by omega) (by omega)
theorem Tf{n c:Int}(h0:0<=n)(h1:n<72057594037927936)(c0:0<=c)(c1:c<=255):av.step n c=c+256*n:=by
 unfold av.step;rw[u64_in (by omega) (by omega),u64_in (by omega) (by omega)];obtain⟨a,rfl⟩:=Int.eq_ofNat_of_zero_le h0;obtain⟨b,rfl⟩:=Int.eq_ofNat_of_zero_le c0;have hb:b<2^8:=by omega
 have hk:=(Nat.two_pow_add_eq_or_of_lt hb a).symm;rw[show(2:Nat)^8=256 from rfl]at hk;rw[show(a:Int)*256=((256*a:Nat):Int) by omega,KV _ _ (by omega) (by omega),hk];omega
theorem KY:∀{l:List Int},Bytes l->l.length<=8->av.num l=num l:=by
 intro l;unfold av.num;rw[List.foldl_reverse]
 induction l with
 |nil=>intro _ _;rfl
 |cons c r ih=>
  intro hb hl;have hr:Bytes r:=fun d hd=>hb d (by simp[hd])
  have hc:=hb c (by simp);have hn:=GA hr;have h7:(256:Int)^r.length<=72057594037927936:=by
   have h:=Nat.pow_le_pow_right (show 0<256 by decide) (show r.length<=7 by simp only[ax]at hl;omega);rw[show(256:Nat)^7=72057594037927936 from rfl]at h;have h':=Int.ofNat_le.2 h;rw[Int.natCast_pow]at h';exact h'
  simp only[List.foldr_cons];rw[ih hr (by simp only[ax]at hl;omega),Tf (num_nonneg hr) (by omega) hc.1 hc.2];rfl
variable {a:Int}
theorem Co{l:List Int}(hb:Bytes l){s:Int}(h1:1<=s)(h2:s<=8)(h3:0<=a)(h4:a+s<=l.length):
 av.f l a s=some (num ((l.drop a.toNat).take s.toNat),true):=by
 unfold av.f;rw[if_neg (by omega)];have e:(l.take (a+s).toNat).drop a.toNat=(l.drop a.toNat).take s.toNat:=by
  rw[eM];congr 1;omega
 rw[e,KY ((hb.drop _).take _) (by simp only[ao];omega)]
theorem Tg{l:List Int}{s:Int}(h:¬(1<=s∧s<=8∧0<=a∧a+s<=l.length)):av.f l a s=some (0,false):=by
 unfold av.f;rw[if_pos (by omega)]
variable {c n:Nat}
theorem O_(h:c<4294967296):bits .xor .u32 ((c:Int)/2) (bits .and .u32 3988292384 ((-(bits .and .u32 (c:Int) 1))%4294967296))=(st c:Int):=by
 have e1:bits .and .u32 (c:Int) 1=((c%2:Nat):Int):=by
  rw[show(1:Int)=((1:Nat):Int)from rfl,r_ _ _ h (by omega),Nat.and_one_is_mod]
 rw[e1,show(c:Int)/2=((c/2:Nat):Int) by omega];unfold st;rcases Nat.mod_two_eq_zero_or_one c with h2|h2
 .rw[h2,if_neg (by omega)];rw[show(-((0:Nat):Int))%4294967296=((0:Nat):Int) by omega,show(3988292384:Int)=((3988292384:Nat):Int)from rfl,r_ _ _ (by omega) (by omega),Nat.and_zero,oJ _ _ (by omega) (by omega),Nat.xor_zero]
 .rw[h2,if_pos rfl];rw[show(-((1:Nat):Int))%4294967296=((4294967295:Nat):Int) by omega,show(3988292384:Int)=((3988292384:Nat):Int)from rfl,r_ _ _ (by omega) (by omega),show 3988292384 &&& 4294967295=3988292384 by decide,oJ _ _ (by omega) (by omega)]
theorem Pb{x:Int}(h:c<4294967296)(h0:0<=x)(h1:x<=255):bits .xor .u32 (c:Int) (x%4294967296)=((c ^^^ x.toNat:Nat):Int):=by
 rw[show x%4294967296=((x.toNat:Nat):Int) by omega,oJ _ _ h (by omega)]
theorem K9(m:Nat):∀(k c:Nat) (l:List Int) (n i:Int) (j:Nat),j+m=8->c<4294967296->bK.l1 (k+m+1) (c:Int) l n i (j:Int)=bK.l0 k (zy m c:Int) l n (wrap64 (i+1)):=by
 induction m with
 |zero=>intro k c l n i j hj hc;simp only[bK.l1];rw[if_neg (by omega)];rfl
 |succ m ih=>
  intro k c l n i j hj hc;rw[show k+(m+1)+1=(k+m+1)+1 by omega];simp only[bK.l1];rw[if_pos (by omega),O_ hc,dW (by omega) (by omega),show((j:Int)+1)=((j+1:Nat):Int) by omega];exact ih k (st c) l n i (j+1) (by omega) (Wx hc)
theorem Pf{l:List Int}(hb:Bytes l)(hl:l.length<=1000000)(d:Nat):∀(k c i:Nat),i+d=l.length->10*d<k->c<4294967296->
 bK.l0 k (c:Int) l (l.length:Int) (i:Int)=some ((cr (l.drop i) c ^^^ 4294967295:Nat):Int):=by
 induction d with
 |zero=>
  intro k c i hd hk hc;obtain⟨k,rfl⟩:∃m,k=m+1:=⟨k-1,by omega⟩
  simp only[bK.l0];rw[if_neg (by omega),xU _ hc,List.drop_eq_nil_of_le (by omega)];rfl
 |succ d ih=>
  intro k c i hd hk hc;obtain⟨k,rfl⟩:∃m,k=(m+8+1)+1:=⟨k-10,by omega⟩
  have hi:i<l.length:=by omega
  have hx:=hb _ (List.getElem_mem hi);have e:rd l (i:Int)=l[i]:=by unfold rd;rw[Int.toNat_natCast,cH,bk hi];rfl
  simp only[bK.l0];rw[if_pos (by omega),if_pos (by omega),if_pos (by omega),e,Pb hc hx.1 hx.2];rw[show(0:Int)=((0:Nat):Int)from rfl,K9 8 k _ l _ _ 0 rfl (Ch hc (by omega)),dW (by omega) (by omega),show((i:Int)+1)=((i+1:Nat):Int) by omega,
   ih k _ (i+1) (by omega) (by omega) (Ot 8 (Ch hc (by omega))),List.drop_eq_getElem_cons hi]
  rfl
theorem Pg{l:List Int}(hb:Bytes l)(hl:l.length<=1000000)(k:Nat)(hk:10*l.length<k):bK.f k l=some (crc l:Int):=by
 have:=Pf hb hl l.length k 4294967295 0 (by omega) hk (by omega);simpa[bK.f,crc]using this
variable {α:Type}
theorem Ti{c:Prop}[Decidable c]{a b:Option α}{x y:α}(ha:c->a=some x)(hb:¬c->b=some y):(if c then a else b)=some (if c then x else y):=by
 split
 .exact ha ‹_›
 .exact hb ‹_›
def hd(t:List Int):List Int:=le 2 (t.length:Int)++t
def enc(t:List Int):List Int:=hd t++le 4 (crc (hd t):Int)
theorem oo(t:List Int):(hd t).length=t.length+2:=by simp[hd,bB];omega
theorem eH(t:List Int):(enc t).length=t.length+6:=by simp[enc,oo,bB]
theorem tZ{t:List Int}(h:Bytes t):Bytes (hd t):=(iO 2 _).append h
theorem AA{t:List Int}(h:Bytes t):Bytes (enc t):=(tZ h).append (iO 4 _)
theorem Tj(h:n<18446744073709551616):cq.wrap (n:Int)=(n:Int):=u64_in (by omega) (by omega)
def dec(b:List Int):List Int×Int×Int:=
 if b.length<2 then([],0,2)else
 if 1000<num (b.take 2)∨(b.length:Int)<num (b.take 2)+6 then([],0,2)else
 if num ((b.drop ((num (b.take 2)).toNat+2)).take 4)=(crc (b.take ((num (b.take 2)).toNat+2)):Int)then((b.drop 2).take (num (b.take 2)).toNat,num (b.take 2)+6,0)else([],0,3)
theorem Tk(b:List Int):(dec b).2.2=0∨(dec b=([],0,2)∨dec b=([],0,3)):=by
 unfold dec
 split
 .exact .inr (.inl rfl)
 split
 .exact .inr (.inl rfl)
 split
 .exact .inl rfl
 .exact .inr (.inr rfl)
variable {b:List Int}
theorem Yb(hb:Bytes b)(h:(dec b).2.2=0):∃n:Nat,n<=1000∧n+6<=b.length∧dec b=((b.drop 2).take n,(n:Int)+6,0)∧num (b.take 2)=n∧num ((b.drop (n+2)).take 4)=(crc (b.take (n+2)):Int):=by
 unfold dec at h⊢
 split at h
 .exact absurd h (by simp)
 split at h
 .exact absurd h (by simp)
 split at h
 .rename_i h1 h2 h3
  have h0:=num_nonneg (hb.take 2);refine⟨(num (b.take 2)).toNat,by omega,by omega,?_,by omega,h3⟩;rw[if_neg h1,if_neg h2,if_pos h3,Int.toNat_of_nonneg h0]
 .exact absurd h (by simp)
theorem Ph(hb:Bytes b):0<=(dec b).2.1∧(dec b).2.1<=1006∧(dec b).2.1<=b.length∧((dec b).2.2=0->6<=(dec b).2.1∧((dec b).1.length:Int)+6=(dec b).2.1):=by
 rcases Tk b with h|h|h
 .obtain⟨n,hn,hl,e,_⟩:=Yb hb h;rw[e];refine⟨by simp only;omega,by simp only;omega,by simp only;omega,fun _=>⟨by simp only;omega,?_⟩⟩;simp only[ao,ca];omega
 .rw[h];exact⟨by simp,by simp,by simp,fun h=>by simp at h⟩
 .rw[h];exact⟨by simp,by simp,by simp,fun h=>by simp at h⟩
theorem AB(hb:Bytes b)(hl:b.length<=140737488351232)(k:Nat)(hk:10030<k):bW.f k b=some (dec b):=by
 obtain⟨k,rfl⟩:∃m,k=m+1:=⟨k-1,by omega⟩
 unfold bW.f dec;by_cases h2:b.length<2
 .rw[if_pos h2,Tg (by omega)];simp only[cd];rw[if_neg (by simp)];simp[bW.j0]
 .rw[if_neg h2,Co hb (by omega) (by omega) (by omega) (by omega)];simp only[cd,if_true];rw[show(0:Int).toNat=0 from rfl,List.drop_zero,show(2:Int).toNat=2 from rfl];have hn0:=num_nonneg (hb.take 2);have hn1:=GA (hb.take 2);rw[show(b.take 2).length=2 by simp only[ao];omega]at hn1;generalize num (b.take 2)=n at hn0 hn1⊢;rw[show(256:Int)^2=65536 from rfl]at hn1;rw[dW (x:=n) (by omega) (by omega),dW (x:=2+n) (by omega) (by omega)];by_cases g1:1000<n
  .rw[if_pos (by omega),if_pos (by omega)];simp[bW.j0]
  .rw[if_neg (by omega),dW (by omega) (by omega)];by_cases g2:(b.length:Int)<n+6
   .rw[if_pos (by omega),decide_eq_true (by omega)];simp[bW.j0]
   .rw[if_neg (c:=1000<n∨_) (by omega),decide_eq_false (by omega)];simp only[bW.j0];rw[if_neg (by simp),Co hb (by omega) (by omega) (by omega) (by omega)];simp only[cd];rw[if_pos (by omega),if_pos (by omega),show(2+n).toNat=n.toNat+2 by omega,show(4:Int).toNat=4 from rfl,Pg (hb.take _) (by simp only[ao];omega) k (by simp only[ao];omega)];simp only[cd];have hm0:=num_nonneg ((hb.drop (n.toNat+2)).take 4);have hm1:=GA ((hb.drop (n.toNat+2)).take 4);rw[show((b.drop (n.toNat+2)).take 4).length=4 by simp only[ao,ca];omega,show(256:Int)^4=4294967296 from rfl]at hm1;rw[Int.emod_eq_of_lt hm0 hm1];refine Ti (fun _=>?_) (fun _=>rfl);rw[if_pos (by omega),dW (by omega) (by omega)];have e:(b.take (n.toNat+2)).drop 2=(b.drop 2).take n.toNat:=by
     rw[eM];simp
    rw[e,Eo (by simp only[ao];omega)];simp only[cd];rw[show 2+n+4=n+6 by omega]
theorem take_left'{a b:List α}(h:n=a.length):(a++b).take n=a:=by rw[h];exact List.take_left
theorem drop_left'{a b:List α}(h:n=a.length):(a++b).drop n=b:=by rw[h];exact List.drop_left
theorem Tm(h:n<=1000):num (le 2 (n:Int))=(n:Int):=by
 rw[sj,show(256:Int)^2=65536 from rfl];omega
theorem Tn(h:c<4294967296):num (le 4 (c:Int))=(c:Int):=by
 rw[sj,show(256:Int)^4=4294967296 from rfl];omega
theorem Ju{t:List Int}(hb:Bytes t)(hl:t.length<=1000)(r:List Int):dec (enc t++r)=(t,(t.length:Int)+6,0):=by
 have hlen:(enc t++r).length=t.length+6+r.length:=by rw[cA,eH]
 have e0:enc t++r=le 2 (t.length:Int)++(t++(le 4 (crc (hd t):Int)++r)):=by simp[enc,hd]
 have e1:enc t++r=hd t++(le 4 (crc (hd t):Int)++r):=by simp[enc]
 have t2:(enc t++r).take 2=le 2 (t.length:Int):=by rw[e0];exact take_left' (bB 2 _).symm
 have n2:num ((enc t++r).take 2)=(t.length:Int):=by rw[t2];exact Tm hl
 have d2:(enc t++r).drop 2=t++(le 4 (crc (hd t):Int)++r):=by rw[e0];exact drop_left' (bB 2 _).symm
 have tn:(enc t++r).take (t.length+2)=hd t:=by rw[e1];exact take_left' (oo t).symm
 have dn:(enc t++r).drop (t.length+2)=le 4 (crc (hd t):Int)++r:=by rw[e1];exact drop_left' (oo t).symm
 unfold dec;rw[if_neg (by omega),n2,if_neg (by omega),Int.toNat_natCast,tn,dn,take_left' (bB 4 _).symm,Tn (Ou (tZ hb)),if_pos rfl,d2,take_left' rfl]
end Go.Proofs.YtlhhcnknclnlaaaGreatDoor.Oct
namespace Go.Proofs.YtlhhcnknclnlaaaGreatDoor.iH
open Go.RowKit Go.Proofs.ah.aN Go.Proofs.ah.bA Go.Proofs.ah.dx
section
attribute [local go_sem] gM gN kY lg
theorem abv(d:Nat)(w:ae)(x0 y0:Int)(x1 y1:Int):
 (Op.equalIn (d+2) 24 (.agg #[.int .i64 x0,.int .u32 x1]) (.agg #[.int .i64 y0,.int .u32 y1])).run ag w=.ok (x0==y0&&(x1==y1)) w:=by
 refine X4 dp (by kernel_rfl) ?_;refine Ow (by rfl) (by go_simp;rfl) (by go_simp;rfl) (by go_simp) ?_;exact Ov (by rfl) (by go_simp;rfl) (by go_simp;rfl) (by go_simp)
end
section
attribute [local go_sem] gM gN kY lg
attribute [local go_sem high] abv
def gH.l0:Nat->List Int->List (List Int)->Int->Option ((List (List Int))×Int×Int)
 |0,_,_,_=>none
 |k+1,x0,x2,x3=>if x3<(x0.length:Int)then(if 0<=x3 then(if x3<=(x0.length:Int)then((bW.f k (x0.drop (x3:Int).toNat)).bind fun Jv=>(if Jv.2.2=0 then(if x2.length<5864062014805 then(gH.l0 k x0 (x2++[Jv.1]) (wrap64 (x3+Jv.2.1)))else(none))else(some (([]:List (List Int)),x3,Jv.2.2))))else(none))else(none))else(some (x2,0,0))
def gH.f(k:Nat)(l0:List Int):Option ((List (List Int))×Int×Int):=gH.l0 k l0 ([]:List (List Int)) 0
theorem gH.calls(k:Nat)(A0:Option dC)(c0:Nat)(l0:List Int)(r1:List (List Int))(r2:Int)(r3:Int)(w:ae)(hr0:Kd.C (Kd.int .u8) w A0 l0.length l0)(hc0:l0.length<=c0)(h:gH.f k l0=some (r1,r2,r3))(Jw:aG (r3=0)):
 di ag 199 #[.slice A0 l0.length c0] w fun e w'=>∃vT:dv,e=.returned (.tuple #[vT,.int .i64 r2,.int .i64 r3])∧Kd.S (Kd.slice 5 (Kd.int .u8)) 40 w' w.heap.size (fun _=>True) vT r1∧cE w.heap.size w w':=by
 have nS:=Y1 hr0;have xZ:=Y1 hc0;clear hr0 hc0;have HB:=Y1 (aw w.heap.size w);have H:=h;clear h;unfold gH.f at H;have H':=Y1 H;clear H;go_enter func199,ntmps199
 go_wp2
 go_loopg [2,3] k (fun kq v2 v3 w'=>∃(tY:List (List Int)) (kJ:Int),v3=.int .i64 kJ∧aG (gH.l0 kq l0 tY kJ=some (r1,r2,r3))∧aG (kq<=k)∧aG (Kd.S (Kd.slice 5 (Kd.int .u8)) 40 w' w.heap.size (fun _=>True) v2 tY)∧aG (cE w.heap.size w w'))
 case atStart=>exact⟨(([]:List (List Int))),(0),(by rfl),H',⟨bj _⟩,⟨by exact Kd.aaY _ _ _ _ _⟩,⟨by repeat ((with_reducible exact HB.out))⟩⟩
 case round=>
  clear H';obtain⟨tY,kJ,rfl,HA,tX,Ep,HB⟩:=hrel;cases gk with
  |zero=>exact absurd HA.out (by simp[gH.l0])
  |succ k1=>
   have H:=HA.out;clear HA;simp only[gH.l0]at H;by_cases c2:kJ<(l0.length:Int)
   .rw[if_pos c2]at H;have Ej:decide (kJ<(l0.length:Int))=true:=decide_eq_true c2;clear c2;by_cases c3:0<=kJ
    .rw[if_pos c3]at H;have zI:=eq_true c3;have abw:decide (0<=kJ)=true:=decide_eq_true c3;clear c3;by_cases c4:kJ<=(l0.length:Int)
     .rw[if_pos c4]at H;have wH:=eq_true c4;have aeT:decide (kJ<=(l0.length:Int))=true:=decide_eq_true c4;clear c4;replace H:=af.mp H;obtain⟨⟨t122,t123,t124⟩,A50,H⟩:=H;dsimp only at H;have A5:=Y1 A50;clear A50;by_cases c6:t124=0
      .rw[if_pos c6]at H;have pJ:(t124==0)=true:=beq_iff_eq.mpr c6;have Pj:(t124 !=0)=false:=bne_eq_false_iff_eq.mpr c6;clear c6;by_cases c7:tY.length<5864062014805
       .rw[if_pos c7]at H;have aeU:=Y1 c7;clear c7;obtain⟨aeV,Pk⟩:∃y_:List (List Int),y_=(tY++[t122]):=⟨_,rfl⟩
        rw[<-Pk]at H;have abx:=Y1 Pk;clear Pk;have H':=Y1 H;clear H;obtain⟨i08,aby,_,abz,_⟩:=info_parts info5;obtain⟨A8,agK,hA8,Jy⟩:=zF (P:=ag) (a_ .u8) 0 40 5 .i64 al aby abz A0 c0 l0 kJ (of_decide_eq_true (by(with_reducible assumption))) (of_decide_eq_true (by(with_reducible assumption))) xZ.out;have abA:=Y1 (Kd.dP (h1:=fun _=>rfl) (hA8 _ (Kd.fB nS.out)));have abB:=Y1 Jy;clear hA8 Jy aby abz
        go_wp2_with (first|((with_reducible refine bQ (f:=93) rfl ?_);refine gJ (some 16) rfl rfl fe (by kernel_rfl) rfl #[.slice A8 (l0.drop (kJ:Int).toNat).length (c0-kJ.toNat)] rfl (by(try simp only[aq,aE,bb]);(rw[show(l0.drop (kJ:Int).toNat).length=(l0.length-kJ.toNat)from ca]<;>rfl)) ?_;(with_reducible refine(bW.calls k1 _ _ (l0.drop (kJ:Int).toNat) t122 t123 t124 _ ?fJ ?fK A5.out).mono ?_);(case fJ=>repeat (exact(Kd.bM abA.out HB.out)));(case fK=>exact abB.out);rintro e w9 ⟨ahw,rfl,ho0,hb⟩;refine⟨_,rfl,?_⟩;have dB:=Y1 (Kd.N9 (by exact Ep.out) (Kd.Gl ho0) hb);have dN:=Y1 (Kd.jG ho0 (aC (by repeat ((with_reducible exact HB.out)))));have fD:=Y1 (aU (by repeat ((with_reducible exact HB.out))) hb);clear Ep;clear HB;have Ep:=dB;have Jz:=dN;have HB:=fD;clear dB dN fD;(try clear hb);(try clear ho0);obtain⟨abC,abD,aeW⟩:=Kd.dV Jz.out;subst aeW)|((with_reducible refine fF (b:=.append) (xs:= #[.tmp 24,.tmp 26]) rfl ?_);at_builtin;refine Kd.Oa (Kd.slice 5 (Kd.int .u8)) (w0:=w) w.heap.size rfl (.tmp 24) (.tmp 26) 221 40 (.slice none 0 0) 24 rfl underlying221 Cm rfl (by decide) (by omega) u2 tY t122 [.slice abC t122.length abD] (fun _=>True) (fun k_=>some k_=(.slice abC t122.length abD:dv).ownBlock) rfl rfl ?aP (fun k_ hk_=>((Kd.iA (ok':=fun k_=>((fun _=>True)) k_∧some k_≠(u2:dv).ownBlock) (Kd.DN (Jz.out) (Kd.Jh Ep.out) (by decide)) (fun k_ hk=>⟨trivial,hk.2⟩))).1 k_ hk_.symm) ?aF ?aO ?aB ?aS ?aL ?_;(case aP=>exact Kd.aaQ (Kd.iA (Kd.Cc rfl (Kd.iA (ok':=fun k_=>((fun _=>True)) k_∧some k_≠(u2:dv).ownBlock) (Kd.DN (Jz.out) (Kd.Jh Ep.out) (by decide)) (fun k_ hk=>⟨trivial,hk.2⟩))) (fun _ h_=>h_)));(case aB=>exact(by repeat ((with_reducible exact HB.out))));(case aF=>exact(fun _ _=>trivial));(case aO=>exact(by exact Kd.XW Ep.out (fun k_ hk=>⟨trivial,fun e_=>hk.2 e_⟩)));(case aS=>exact(aC (by repeat ((with_reducible exact HB.out)))));(case aL=>have:=aeU.out;omega);intro ahx w10 ho hb hg hat;rw[<-abx.out]at ho;have dB:=Y1 (hb);have dN:=Y1 (ho);clear HB;clear Ep;clear Jz;have HB:=dB;have abE:=dN;clear dB dN;clear ho hb hg hat))
        go_roundg k1
        case measure=>have:=tX.out;omega
        case rel=>exact⟨(aeV),(wrap64 (kJ+t123)),(by rfl),H',⟨by have:=tX.out;omega⟩,⟨by exact abE.out⟩,⟨by repeat ((with_reducible exact HB.out))⟩⟩
       .rw[if_neg c7]at H;exact absurd H (by simp)
      .rw[if_neg c6]at H;have pJ:(t124==0)=false:=beq_eq_false_iff_ne.mpr c6;have Pj:(t124 !=0)=true:=bne_iff_ne.mpr c6;simp only[ar,ba]at H;obtain⟨rfl,rfl,rfl⟩:=H;exact absurd Jw.out c6
     .rw[if_neg c4]at H;exact absurd H (by simp)
    .rw[if_neg c3]at H;exact absurd H (by simp)
   .rw[if_neg c2]at H;have Ej:decide (kJ<(l0.length:Int))=false:=decide_eq_false c2;clear c2;simp only[ar,ba]at H;obtain⟨rfl,rfl,rfl⟩:=H
    go_wp2
    go_ret3
    exact⟨_,by rfl,by exact Ep.out,by repeat ((with_reducible exact HB.out))⟩
def fV.f(a0:Int)(a1:Int):Option (Bool):=if a0>=0 then(if a0<=1048576 then(if a1>=1 then(some (decide (a1<=4096)))else(some false))else(some false))else(some false)
theorem fV.calls(a0:Int)(a1:Int)(r:Bool)(w:ae)(h:fV.f a0 a1=some r):
 di ag 136 #[.int .i64 a0,.int .i64 a1] w fun e w'=>e=.returned (.bool r)∧bG w w':=by
 have H:=h;clear h;unfold fV.f at H;by_cases c3:a0>=0
 .rw[if_pos c3]at H;have zI:decide (0<=a0)=true:=decide_eq_true c3;clear c3;by_cases c4:a0<=1048576
  .rw[if_pos c4]at H;have wH:decide (a0<=1048576)=true:=decide_eq_true c4;clear c4;by_cases c5:a1>=1
   .rw[if_pos c5]at H;have zJ:decide (1<=a1)=true:=decide_eq_true c5;clear c5;obtain rfl:=aa H;go_enter cY,dq
    go_wp2
    go_ret;exact⟨by rfl,by repeat (exact bG.refl _)⟩
   .rw[if_neg c5]at H;have zJ:decide (1<=a1)=false:=decide_eq_false c5;clear c5;obtain rfl:=aa H;go_enter cY,dq
    go_wp2
    go_ret;exact⟨by rfl,by repeat (exact bG.refl _)⟩
  .rw[if_neg c4]at H;have wH:decide (a0<=1048576)=false:=decide_eq_false c4;clear c4;obtain rfl:=aa H;go_enter cY,dq
   go_wp2
   go_ret;exact⟨by rfl,by repeat (exact bG.refl _)⟩
 .rw[if_neg c3]at H;have zI:decide (0<=a0)=false:=decide_eq_false c3;clear c3;obtain rfl:=aa H;go_enter cY,dq
  go_wp2
  go_ret;exact⟨by rfl,by repeat (exact bG.refl _)⟩
def ji.f(a0:Int)(a1:Int)(a2:Int):Option (Int):=if a1=0 then(none)else(some (wrap64 (Int.tdiv (wrap64 (a2*a0)) a1)))
theorem ji.calls(a0:Int)(a1:Int)(a2:Int)(r:Int)(w:ae)(h:ji.f a0 a1 a2=some r):
 di ag 137 #[.int .i64 a0,.int .i64 a1,.int .i64 a2] w fun e w'=>e=.returned (.int .i64 r)∧bG w w':=by
 have H:=h;clear h;unfold ji.f at H;by_cases c4:a1=0
 .rw[if_pos c4]at H;exact absurd H (by simp)
 .rw[if_neg c4]at H;have wH:(a1==0)=false:=beq_eq_false_iff_ne.mpr c4;have aeT:(a1 !=0)=true:=bne_iff_ne.mpr c4;obtain rfl:=aa H;go_enter fb,ntmps137
  go_wp2
  go_ret;exact⟨by rfl,by repeat (exact bG.refl _)⟩
def dQ.l0:Nat->Int->Int->List Int->Int->Int->Option (List Int×Int)
 |0,_,_,_,_,_=>none
 |k+1,x0,x1,x6,X_,R7=>if R7<X_ then((ji.f x0 x1 R7).bind fun t135=>(if 0<=R7 then(if R7<(x6.length:Int)then(dQ.l0 k x0 x1 (x6.set (R7:Int).toNat t135) X_ (wrap64 (R7+1)))else(none))else(none)))else(some (x6,0))
def dQ.f(k:Nat)(a0:Int)(a1:Int):Option (List Int×Int):=(fV.f a0 a1).bind fun t131=>(if t131=true then(if 0<=(wrap64 (a1+1))then(if(wrap64 (a1+1):Int).toNat<=35184372088832 then((some (dT (wrap64 (a1+1):Int).toNat 0:List Int)).bind fun Cq=>(dQ.l0 k a0 a1 Cq (Cq.length:Int) 0))else(none))else(none))else(some (([]:List Int),1)))
theorem dQ.calls(k:Nat)(a0:Int)(a1:Int)(r1:List Int)(r2:Int)(w:ae)(h:dQ.f k a0 a1=some (r1,r2)):
 di ag 129 #[.int .i64 a0,.int .i64 a1] w fun e w'=>∃vT:dv,e=.returned (.tuple #[vT,.int .i64 r2])∧Kd.R (Kd.int .i64) 3 w' w.heap.size (fun _=>True) vT r1∧cE w.heap.size w w':=by
 have HB:=Y1 (aw w.heap.size w);have H:=h;clear h;unfold dQ.f at H;replace H:=af.mp H;obtain⟨t131,Er,H⟩:=H;have A3:=Y1 Er;clear Er;by_cases c4:t131=true
 .subst c4;rw[if_pos rfl]at H;obtain⟨Em,KX⟩:∃j_:Int,(wrap64 (a1+1))=j_:=⟨_,rfl⟩
  rw[KX]at H;have agL:(an.wrap (a1+1))=Em:=(gK _).trans KX;by_cases c6:0<=(Em)
  .rw[if_pos c6]at H;have pJ:=eq_true c6;have Pj:decide (0<=(Em))=true:=decide_eq_true c6;clear c6;by_cases c7:(Em:Int).toNat<=35184372088832
   .rw[if_pos c7]at H;have GV:=eq_true c7;have Yc:decide ((Em:Int).toNat<=35184372088832)=true:=decide_eq_true c7;clear c7;obtain⟨Cq,Pm⟩:∃y_:List Int,y_=(dT (Em:Int).toNat 0):=⟨_,rfl⟩
    rw[cd,<-Pm]at H;have abF:=Y1 Pm;clear Pm;have H':=Y1 H;clear H;go_enter ez,eR
    go_wp2_with (first|((with_reducible refine bQ (f:=136) rfl ?_);refine gJ (some 10) rfl rfl cY (by kernel_rfl) rfl #[.int .i64 a0,.int .i64 a1] rfl (by(try simp only[aq,aE,bb]);rfl) ?_;(with_reducible refine(fV.calls a0 a1 true _ A3.out).mono ?_);rintro e w' ⟨rfl,⟨nd,rfl⟩⟩;refine⟨_,rfl,?_⟩)|((with_reducible refine bP (N:=14) rfl ?_);refine Kd.NH (Kd.int .i64) _ 3 rfl (N:=14) rfl 44 _ _ rfl Em rfl rfl underlying44 (.int .i64 0) 8 info3 rfl (by decide) (by omega) 0 (ok:=fun _=>True) (lX:=fun _=>True) rfl (fun _ hk=>hk) trivial (of_decide_eq_true (by(with_reducible assumption))) (Nat.le_trans (Nat.mul_le_mul_right _ (of_decide_eq_true (by(with_reducible assumption)):Em.toNat<=35184372088832)) (by omega)) (aw _ _) (bj _) ?_;intro ahy w8 ho9 hb Gw mq;clear Gw mq;(rw[<-abF.out]at ho9);have dB:=Y1 (Kd.jG ho9 (aC (by repeat ((with_reducible first|exact HB.out|apply aZ)))));have dN:=Y1 (aU (by repeat ((with_reducible first|exact HB.out|apply aZ))) hb);clear HB;have WM:=dB;have HB:=dN;clear dB dN;clear hb ho9;obtain⟨abG,Yd,aeX⟩:=Kd.dV WM.out;subst aeX))
    go_loopg [17] k (fun kq v17 w'=>∃(zK:List Int) (iP:Int),v17=.int .i64 iP∧aG (dQ.l0 kq a0 a1 zK (Cq.length:Int) iP=some (r1,r2))∧aG (kq<=k)∧aG (Kd.R (Kd.int .i64) 3 w' w.heap.size (fun _=>True) (.slice abG Cq.length Yd) zK)∧aG (cE w.heap.size w w'))
    case atStart=>exact⟨(Cq),(0),(by rfl),H',⟨bj _⟩,⟨by exact WM.out⟩,⟨by repeat ((with_reducible exact HB.out))⟩⟩
    case round=>
     clear H'
     try clear pJ
     try clear Pj
     try clear GV
     try clear Yc
     obtain⟨zK,iP,rfl,HA,tX,mD,HB⟩:=hrel;have AJ:=(Kd.gV mD.out).1;rw[AJ]at mD
     (try simp only[AJ])
     cases gk with
     |zero=>exact absurd HA.out (by simp[dQ.l0])
     |succ k1=>
      have H:=HA.out;clear HA;simp only[dQ.l0]at H;by_cases c11:iP<(Cq.length:Int)
      .rw[if_pos c11]at H;have Ay:decide (iP<(Cq.length:Int))=true:=decide_eq_true c11
       (try simp only[AJ]at Ay)
       clear c11;replace H:=af.mp H;obtain⟨t135,O5,H⟩:=H;have A12:=Y1 O5;clear O5;by_cases c13:0<=iP
       .rw[if_pos c13]at H;have Az:decide (0<=iP)=true:=decide_eq_true c13;clear c13;by_cases c14:iP<(zK.length:Int)
        .rw[if_pos c14]at H;have rJ:decide (iP<(zK.length:Int))=true:=decide_eq_true c14;clear c14;obtain⟨abH,Pn⟩:∃y_:List Int,y_=(zK.set (iP:Int).toNat t135):=⟨_,rfl⟩
         rw[<-Pn]at H;have abI:=Y1 Pn;clear Pn;have H':=Y1 H;clear H
         go_wp2_with (first|((with_reducible refine bQ (f:=137) rfl ?_);refine gJ (some 25) rfl rfl fb (by kernel_rfl) rfl #[.int .i64 a0,.int .i64 a1,.int .i64 iP] rfl (by(try simp only[aq,aE,bb]);rfl) ?_;(with_reducible refine(ji.calls a0 a1 iP t135 _ A12.out).mono ?_);rintro e w' ⟨rfl,⟨nd,rfl⟩⟩;refine⟨_,rfl,?_⟩;(try (rw[Gt wr];generalize hq_:World.drewN wr _=wr;have dB:aG (Kd.R (Kd.int .i64) 3 wr w.heap.size (fun _=>True) (.slice abG zK.length Yd) zK):=⟨by rw[<-hq_];exact(by(with_reducible repeat (apply Kd.BS));exact mD.out)⟩;have dN:aG (cE w.heap.size w wr):=⟨by rw[<-hq_];exact(by repeat ((with_reducible first|exact HB.out|apply aZ)))⟩;clear mD HB hq_;have mD:=dB;have HB:=dN;clear dB dN));have p15:0<=(iP:Int):=of_decide_eq_true (by(with_reducible assumption));have q15:(iP:Int)<((zK.length:Int):Int):=of_decide_eq_true (by(with_reducible assumption));obtain⟨Ye,ahz,abJ,abK,aeY,ahA,abL⟩:=Kd.ND mD.out (by omega);(first|cases abJ|(injection abJ with Tp en_ ec_;(first|subst Tp|(injection Tp with Tp;subst Tp));subst ec_;clear en_));have aeZ:=Y1 abK;have ahB:=Y1 abL;clear abK aeY abL;obtain⟨ae0,ae1⟩:=Kd.Jd 0 mD.out (iP:Int) p15 q15;replace p15:=eq_true p15;replace q15:=eq_true q15;obtain⟨agM,agN⟩:=Kd.Jd 0 mD.out (iP:Int) (of_decide_eq_true (by(with_reducible assumption))) (of_decide_eq_true (by(with_reducible assumption)));have Yf:=Kd.XT mD.out (iP:Int) t135)|((with_reducible refine xM (t:=3) (p:=26) rfl ?_);refine vK (t:=3) (p:=26) (v:=?ae2) (w1:=(wr.setCell ⟨Ye,(iP:Int).toNat,none⟩ (.int .i64 t135))) ?hg ?ho ?hn ?hr ?_;(case ho=>rfl);(case hg=>rfl);(case hn=>rfl);(case hr=>(go_simp;done));intro w17 hw;have hg:wr.grownBy w17 (some Ye):=(by rw[hw];exact Yf.2);have hp_:Kd.R (Kd.int .i64) 3 w17 w.heap.size (fun _=>True) (.slice (some ⟨Ye,0,none⟩) zK.length Yd) abH:=(by rw[hw,abI.out];exact Yf.1);clear Yf;have dB:=Y1 (hp_);have dN:=Y1 ((by rw[hw];exact jv (HB.out) aeZ.out:cE w.heap.size w w17));clear mD;clear HB;have mD:=dB;have HB:=dN;clear dB dN;clear hg hw hp_))
         (try simp only[<-AJ])
         go_roundg k1
         case measure=>have:=tX.out;omega
         case rel=>exact⟨(abH),(wrap64 (iP+1)),(by rfl),H',⟨by have:=tX.out;omega⟩,⟨by(try simp only[AJ]);exact mD.out⟩,⟨by repeat ((with_reducible exact HB.out))⟩⟩
        .rw[if_neg c14]at H;exact absurd H (by simp)
       .rw[if_neg c13]at H;exact absurd H (by simp)
      .rw[if_neg c11]at H;have Ay:decide (iP<(Cq.length:Int))=false:=decide_eq_false c11
       (try simp only[AJ]at Ay)
       clear c11;simp only[ar,ba]at H;obtain⟨rfl,rfl⟩:=H
       go_wp2
       go_ret2
       exact⟨_,by rfl,by exact mD.out,by repeat ((with_reducible exact HB.out))⟩
   .rw[if_neg c7]at H;exact absurd H (by simp)
  .rw[if_neg c6]at H;exact absurd H (by simp)
 .replace c4:=cX.mpr c4;subst c4;rw[if_neg (show ¬(false=true) by decide)]at H;simp only[ar,ba]at H;obtain⟨rfl,rfl⟩:=H;go_enter ez,eR
  go_wp2_with (first|((with_reducible refine bQ (f:=136) rfl ?_);refine gJ (some 10) rfl rfl cY (by kernel_rfl) rfl #[.int .i64 a0,.int .i64 a1] rfl (by(try simp only[aq,aE,bb]);rfl) ?_;(with_reducible refine(fV.calls a0 a1 false _ A3.out).mono ?_);rintro e w' ⟨rfl,⟨nd,rfl⟩⟩;refine⟨_,rfl,?_⟩))
  go_ret2
  exact⟨_,by rfl,by exact Kd.sW _ _ _ _ _,by repeat ((with_reducible first|exact HB.out|apply aZ))⟩
def fM.f(aT:Int)(bY:Int)(a1:Int):Option (Bool):=if aT=1 then(if aT>=1 then(if aT<=5 then(if a1>=0 then(if a1<=1048576 then(some (decide ((wrap64 (bY))<a1)))else(some false))else(some false))else(some false))else(some false))else(if aT>=1 then(if aT<=5 then(if a1>=0 then(if a1<=1048576 then(if aT=3 then(some (decide ((wrap64 (bY))<a1)))else(some true))else(some false))else(some false))else(some false))else(some false))
theorem fM.calls(aT:Int)(bY:Int)(a1:Int)(r:Bool)(w:ae)(h:fM.f aT bY a1=some r)(Jw:aG (r=true)):
 di ag 130 #[.agg #[.int .i64 aT,.int .u32 bY],.int .i64 a1] w fun e w'=>e=.returned (.bool r)∧cE w.heap.size w w':=by
 have Tq:=dp;have HB:=Y1 (aw w.heap.size w);have H:=h;clear h;unfold fM.f at H;by_cases c3:aT=1
 .rw[if_pos c3]at H;have zI:(aT==1)=true:=beq_iff_eq.mpr c3;have abw:(aT !=1)=false:=bne_eq_false_iff_eq.mpr c3;clear c3;by_cases c4:aT>=1
  .rw[if_pos c4]at H;have wH:decide (1<=aT)=true:=decide_eq_true c4;clear c4;by_cases c5:aT<=5
   .rw[if_pos c5]at H;have zJ:decide (aT<=5)=true:=decide_eq_true c5;clear c5;by_cases c6:a1>=0
    .rw[if_pos c6]at H;have pJ:decide (0<=a1)=true:=decide_eq_true c6;clear c6;by_cases c7:a1<=1048576
     .rw[if_pos c7]at H;have GV:decide (a1<=1048576)=true:=decide_eq_true c7;clear c7;obtain rfl:=aa H;go_enter eI,eo
      go_wp2_with (first|((with_reducible refine bP (N:=2) rfl ?_);refine bU ?hg (N:=2) ?hd (cs:= #[.int .i64 aT,.int .u32 bY]) (t:=24) ?hr ?_;(case hd=>rfl);(case hg=>rfl);(case hr=>(go_simp;done));intro mZ hg w8 dz hb;have dB:=Y1 (aU (by repeat ((with_reducible exact HB.out))) hb);have dN:=Y1 (dz);have fD:=Y1 ((by rw[hg];exact(aC (by repeat ((with_reducible exact HB.out)))):w.heap.size<=mZ));have iC:=Y1 ((by rw[hg];exact(aC (by repeat ((with_reducible exact HB.out)))):w.heap.size<=mZ));clear HB;have HB:=dB;have m_:=dN;have WO:=fD;have WQ:=iC;clear dB dN fD iC;clear hb dz hg;have GX:w8.cell? ⟨mZ,0,none⟩=some (.int .i64 aT):=(ay m_.out 0).trans rfl;have GY:w8.cell? ⟨mZ,1,none⟩=some (.int .u32 bY):=(ay m_.out 1).trans rfl;have GZ:=aj m_.out 0;have G5:=aj m_.out 1))
      go_ret;exact⟨by rfl,by repeat ((with_reducible exact HB.out))⟩
     .rw[if_neg c7]at H;have GV:decide (a1<=1048576)=false:=decide_eq_false c7;clear c7;obtain rfl:=aa H;cases Jw.out
    .rw[if_neg c6]at H;have pJ:decide (0<=a1)=false:=decide_eq_false c6;clear c6;obtain rfl:=aa H;cases Jw.out
   .rw[if_neg c5]at H;have zJ:decide (aT<=5)=false:=decide_eq_false c5;clear c5;obtain rfl:=aa H;cases Jw.out
  .rw[if_neg c4]at H;have wH:decide (1<=aT)=false:=decide_eq_false c4;clear c4;obtain rfl:=aa H;cases Jw.out
 .rw[if_neg c3]at H;have zI:(aT==1)=false:=beq_eq_false_iff_ne.mpr c3;have abw:(aT !=1)=true:=bne_iff_ne.mpr c3;by_cases c18:aT>=1
  .rw[if_pos c18]at H;have Po:decide (1<=aT)=true:=decide_eq_true c18;clear c18;by_cases c19:aT<=5
   .rw[if_pos c19]at H;have WR:decide (aT<=5)=true:=decide_eq_true c19;clear c19;by_cases c20:a1>=0
    .rw[if_pos c20]at H;have Es:decide (0<=a1)=true:=decide_eq_true c20;clear c20;by_cases c21:a1<=1048576
     .rw[if_pos c21]at H;have abM:decide (a1<=1048576)=true:=decide_eq_true c21;clear c21;by_cases K_:aT=3
      .rw[if_pos K_]at H;have abN:(aT==3)=true:=beq_iff_eq.mpr K_;have abO:(aT !=3)=false:=bne_eq_false_iff_eq.mpr K_;clear K_;obtain rfl:=aa H;go_enter eI,eo
       go_wp2_with (first|((with_reducible refine bP (N:=2) rfl ?_);refine bU ?hg (N:=2) ?hd (cs:= #[.int .i64 aT,.int .u32 bY]) (t:=24) ?hr ?_;(case hd=>rfl);(case hg=>rfl);(case hr=>(go_simp;done));intro mZ hg w23 dz hb;have dB:=Y1 (aU (by repeat ((with_reducible exact HB.out))) hb);have dN:=Y1 (dz);have fD:=Y1 ((by rw[hg];exact(aC (by repeat ((with_reducible exact HB.out)))):w.heap.size<=mZ));have iC:=Y1 ((by rw[hg];exact(aC (by repeat ((with_reducible exact HB.out)))):w.heap.size<=mZ));clear HB;have HB:=dB;have m_:=dN;have WO:=fD;have WQ:=iC;clear dB dN fD iC;clear hb dz hg;have Tt:w23.cell? ⟨mZ,0,none⟩=some (.int .i64 aT):=(ay m_.out 0).trans rfl;have Tv:w23.cell? ⟨mZ,1,none⟩=some (.int .u32 bY):=(ay m_.out 1).trans rfl;have Tw:=aj m_.out 0;have Tx:=aj m_.out 1))
       go_ret;exact⟨by rfl,by repeat ((with_reducible exact HB.out))⟩
      .rw[if_neg K_]at H;have abN:(aT==3)=false:=beq_eq_false_iff_ne.mpr K_;have abO:(aT !=3)=true:=bne_iff_ne.mpr K_;obtain rfl:=aa H;go_enter eI,eo
       go_wp2_with (first|((with_reducible refine bP (N:=2) rfl ?_);refine bU ?hg (N:=2) ?hd (cs:= #[.int .i64 aT,.int .u32 bY]) (t:=24) ?hr ?_;(case hd=>rfl);(case hg=>rfl);(case hr=>(go_simp;done));intro mZ hg w25 dz hb;have dB:=Y1 (aU (by repeat ((with_reducible exact HB.out))) hb);have dN:=Y1 (dz);have fD:=Y1 ((by rw[hg];exact(aC (by repeat ((with_reducible exact HB.out)))):w.heap.size<=mZ));have iC:=Y1 ((by rw[hg];exact(aC (by repeat ((with_reducible exact HB.out)))):w.heap.size<=mZ));clear HB;have HB:=dB;have m_:=dN;have WO:=fD;have WQ:=iC;clear dB dN fD iC;clear hb dz hg;have adP:w25.cell? ⟨mZ,0,none⟩=some (.int .i64 aT):=(ay m_.out 0).trans rfl;have adQ:w25.cell? ⟨mZ,1,none⟩=some (.int .u32 bY):=(ay m_.out 1).trans rfl;have adR:=aj m_.out 0;have adS:=aj m_.out 1))
       go_ret;exact⟨by rfl,by repeat ((with_reducible exact HB.out))⟩
     .rw[if_neg c21]at H;have abM:decide (a1<=1048576)=false:=decide_eq_false c21;clear c21;obtain rfl:=aa H;cases Jw.out
    .rw[if_neg c20]at H;have Es:decide (0<=a1)=false:=decide_eq_false c20;clear c20;obtain rfl:=aa H;cases Jw.out
   .rw[if_neg c19]at H;have WR:decide (aT<=5)=false:=decide_eq_false c19;clear c19;obtain rfl:=aa H;cases Jw.out
  .rw[if_neg c18]at H;have Po:decide (1<=aT)=false:=decide_eq_false c18;clear c18;obtain rfl:=aa H;cases Jw.out
def cO.j0:Nat->Bool->Int->Int->Int->Int->Int->Int->Option (Bool)
 |0,_,_,_,_,_,_,_=>none
 |k+1,x13,adT,Tz,adU,JA,JB,JC=>if x13=true then(some false)else(if JA=(-1)then(some (JB==0&&(JC==0)))else(if JA>=0 then((fM.f JB JC Tz).bind fun t143=>(some t143))else(some false)))
def cO.f(k:Nat)(aT:Int)(bY:Int)(jO:Int)(lC:Int)(qh:Int)(ql:Int):Option (Bool):=(dQ.f k bY jO).bind fun abP=>(if abP.2=0 then(if aT=0 then(cO.j0 k true aT bY jO lC qh ql)else(cO.j0 k (decide (lC>1099511627776)) aT bY jO lC qh ql))else(cO.j0 k true aT bY jO lC qh ql))
theorem cO.calls(k:Nat)(aT:Int)(bY:Int)(jO:Int)(lC:Int)(qh:Int)(ql:Int)(r:Bool)(w:ae)(h:cO.f k aT bY jO lC qh ql=some r)(Jw:aG (r=true)):
 di ag 116 #[.agg #[.int .u64 aT,.int .i64 bY,.int .i64 jO,.int .i64 lC,.int .i64 qh,.int .u32 ql]] w fun e w'=>e=.returned (.bool r)∧cE w.heap.size w w':=by
 have agO:=underlying107;have Tq:=dp;have HB:=Y1 (aw w.heap.size w);have H:=h;clear h;unfold cO.f at H;replace H:=af.mp H;obtain⟨⟨t139,t140⟩,OY,H⟩:=H;dsimp only at H;have A2:=Y1 OY;clear OY;have Te:=Y1 H;clear H;go_enter func116,ntmps116
 go_upto_region 2 with(first|((with_reducible refine bP (N:=1) rfl ?_);refine bU ?hg (N:=1) ?hd (cs:= #[.int .u64 aT,.int .i64 bY,.int .i64 jO,.int .i64 lC,.int .i64 qh,.int .u32 ql]) (t:=107) ?hr ?_;(case hd=>rfl);(case hg=>rfl);(case hr=>(go_simp;done));intro fO hg w4 dz hb;have dB:=Y1 (aU (by repeat ((with_reducible exact HB.out))) hb);have dN:=Y1 (dz);have fD:=Y1 ((by rw[hg];exact(aC (by repeat ((with_reducible exact HB.out)))):w.heap.size<=fO));have iC:=Y1 ((by rw[hg];exact(aC (by repeat ((with_reducible exact HB.out)))):w.heap.size<=fO));clear HB;have HB:=dB;have bR:=dN;have agP:=fD;have agQ:=iC;clear dB dN fD iC;clear hb dz hg;have yh:w4.cell? ⟨fO,0,none⟩=some (.int .u64 aT):=(ay bR.out 0).trans rfl;have yj:w4.cell? ⟨fO,1,none⟩=some (.int .i64 bY):=(ay bR.out 1).trans rfl;have Pp:w4.cell? ⟨fO,2,none⟩=some (.int .i64 jO):=(ay bR.out 2).trans rfl;have Yg:w4.cell? ⟨fO,3,none⟩=some (.int .i64 lC):=(ay bR.out 3).trans rfl;have Yh:w4.cell? ⟨fO,4,none⟩=some (.int .i64 qh):=(ay bR.out 4).trans rfl;have Yi:w4.cell? ⟨fO,5,none⟩=some (.int .u32 ql):=(ay bR.out 5).trans rfl;have yt:=aj bR.out 0;have yu:=aj bR.out 1;have Pq:=aj bR.out 2;have Yj:=aj bR.out 3;have Yk:=aj bR.out 4;have Yl:=aj bR.out 5)|((with_reducible refine bQ (f:=129) rfl ?_);refine gJ (some 10) rfl rfl ez (by kernel_rfl) rfl #[.int .i64 bY,.int .i64 jO] rfl (by(try simp only[aq,aE,bb]);rfl) ?_;(with_reducible refine(dQ.calls k bY jO t139 t140 _ A2.out).mono ?_);rintro e w6 ⟨v141,rfl,ho0,hb⟩;refine⟨_,rfl,?_⟩;have dB:=Y1 (Kd.jG ho0 (aC (by repeat ((with_reducible exact HB.out)))));have dN:=Y1 (bT (g:=fO) (o:=.cells #[.int .u64 aT,.int .i64 bY,.int .i64 jO,.int .i64 lC,.int .i64 qh,.int .u32 ql] 107 (0,0)) (by exact bR.out) hb);have fD:=Y1 (aU (by repeat ((with_reducible exact HB.out))) hb);clear bR;clear HB;have agR:=dB;have bR:=dN;have HB:=fD;clear dB dN fD;(try clear hb);(try clear ho0)))
 go_cut [13] (fun v13 wc=>∃(kq:Nat) (JD:Bool),v13=.bool JD∧aG (cO.j0 kq JD aT bY jO lC qh ql=some r)∧aG (kq<=k)∧aG (wc.heap[fO]? =some (.cells #[.int .u64 aT,.int .i64 bY,.int .i64 jO,.int .i64 lC,.int .i64 qh,.int .u32 ql] 107 (0,0)))∧aG (cE w.heap.size w wc))
 case first=>
  have H:=Te.out;clear Te;by_cases c7:t140=0
  .rw[if_pos c7]at H;have GV:(t140==0)=true:=beq_iff_eq.mpr c7;have Yc:(t140 !=0)=false:=bne_eq_false_iff_eq.mpr c7;clear c7
   (skip)
   by_cases c8:aT=0
   .rw[if_pos c8]at H;have wI:(aT==0)=true:=beq_iff_eq.mpr c8;have Pt:(aT !=0)=false:=bne_eq_false_iff_eq.mpr c8;clear c8;have H':=Y1 H;clear H;have GX:w6.cell? ⟨fO,0,none⟩=some (.int .u64 aT):=(ay bR.out 0).trans rfl;have GY:w6.cell? ⟨fO,1,none⟩=some (.int .i64 bY):=(ay bR.out 1).trans rfl;have ae3:w6.cell? ⟨fO,2,none⟩=some (.int .i64 jO):=(ay bR.out 2).trans rfl;have ae4:w6.cell? ⟨fO,3,none⟩=some (.int .i64 lC):=(ay bR.out 3).trans rfl;have ae5:w6.cell? ⟨fO,4,none⟩=some (.int .i64 qh):=(ay bR.out 4).trans rfl;have ae6:w6.cell? ⟨fO,5,none⟩=some (.int .u32 ql):=(ay bR.out 5).trans rfl;have GZ:=aj bR.out 0;have G5:=aj bR.out 1;have ae7:=aj bR.out 2;have ae8:=aj bR.out 3;have ae9:=aj bR.out 4;have ae_:=aj bR.out 5
    go_wp2
    go_meet
    case rel=>exact⟨_,(true),(by rfl),H',⟨by omega⟩,⟨by exact bR.out⟩,⟨by repeat ((with_reducible exact HB.out))⟩⟩
   .rw[if_neg c8]at H;have wI:(aT==0)=false:=beq_eq_false_iff_ne.mpr c8;have Pt:(aT !=0)=true:=bne_iff_ne.mpr c8;have H':=Y1 H;clear H;have adV:w6.cell? ⟨fO,0,none⟩=some (.int .u64 aT):=(ay bR.out 0).trans rfl;have adW:w6.cell? ⟨fO,1,none⟩=some (.int .i64 bY):=(ay bR.out 1).trans rfl;have adX:w6.cell? ⟨fO,2,none⟩=some (.int .i64 jO):=(ay bR.out 2).trans rfl;have adY:w6.cell? ⟨fO,3,none⟩=some (.int .i64 lC):=(ay bR.out 3).trans rfl;have adZ:w6.cell? ⟨fO,4,none⟩=some (.int .i64 qh):=(ay bR.out 4).trans rfl;have ad2:w6.cell? ⟨fO,5,none⟩=some (.int .u32 ql):=(ay bR.out 5).trans rfl;have ad3:=aj bR.out 0;have ad5:=aj bR.out 1;have ad6:=aj bR.out 2;have ad7:=aj bR.out 3;have ad8:=aj bR.out 4;have ad9:=aj bR.out 5
    go_wp2
    go_meet
    case rel=>exact⟨_,(decide (lC>1099511627776)),(by rfl),H',⟨by omega⟩,⟨by exact bR.out⟩,⟨by repeat ((with_reducible exact HB.out))⟩⟩
  .rw[if_neg c7]at H;have GV:(t140==0)=false:=beq_eq_false_iff_ne.mpr c7;have Yc:(t140 !=0)=true:=bne_iff_ne.mpr c7
   (skip)
   have H':=Y1 H;clear H
   go_wp2
   go_meet
   case rel=>exact⟨_,(true),(by rfl),H',⟨by omega⟩,⟨by exact bR.out⟩,⟨by repeat ((with_reducible exact HB.out))⟩⟩
 case rest=>
  clear Te
  try clear yh
  try clear yj
  try clear Pp
  try clear Yg
  try clear Yh
  try clear Yi
  try clear yt
  try clear yu
  try clear Pq
  try clear Yj
  try clear Yk
  try clear Yl
  obtain⟨kq,JD,rfl,HA,HJ2,bR,HB⟩:=hcut;cases kq with
  |zero=>exact absurd HA.out (by simp[cO.j0])
  |succ kj2=>
   have H:=HA.out;clear HA;simp only[cO.j0]at H;by_cases c11:JD=true
   .subst c11;rw[if_pos rfl]at H;obtain rfl:=aa H;cases Jw.out
   .replace c11:=cX.mpr c11;subst c11;rw[if_neg (show ¬(false=true) by decide)]at H;by_cases c12:lC=(-1)
    .rw[if_pos c12]at H;have Et:(lC==(-1))=true:=beq_iff_eq.mpr c12;have abQ:(lC !=(-1))=false:=bne_eq_false_iff_eq.mpr c12;clear c12;obtain rfl:=aa H;have TA:wc.cell? ⟨fO,0,none⟩=some (.int .u64 aT):=(ay bR.out 0).trans rfl;have TB:wc.cell? ⟨fO,1,none⟩=some (.int .i64 bY):=(ay bR.out 1).trans rfl;have ad_:wc.cell? ⟨fO,2,none⟩=some (.int .i64 jO):=(ay bR.out 2).trans rfl;have aea:wc.cell? ⟨fO,3,none⟩=some (.int .i64 lC):=(ay bR.out 3).trans rfl;have aeb:wc.cell? ⟨fO,4,none⟩=some (.int .i64 qh):=(ay bR.out 4).trans rfl;have aec:wc.cell? ⟨fO,5,none⟩=some (.int .u32 ql):=(ay bR.out 5).trans rfl;have TD:=aj bR.out 0;have TF:=aj bR.out 1;have aed:=aj bR.out 2;have aee:=aj bR.out 3;have aef:=aj bR.out 4;have aeg:=aj bR.out 5
     go_wp2
     go_ret;exact⟨by rfl,by repeat ((with_reducible exact HB.out))⟩
    .rw[if_neg c12]at H;have Et:(lC==(-1))=false:=beq_eq_false_iff_ne.mpr c12;have abQ:(lC !=(-1))=true:=bne_iff_ne.mpr c12;by_cases c14:lC>=0
     .rw[if_pos c14]at H;have rJ:decide (0<=lC)=true:=decide_eq_true c14;clear c14;replace H:=af.mp H;obtain⟨t143,abR,H⟩:=H;have A15:=Y1 abR;clear abR;obtain rfl:=aa H;have JE:wc.cell? ⟨fO,0,none⟩=some (.int .u64 aT):=(ay bR.out 0).trans rfl;have JF:wc.cell? ⟨fO,1,none⟩=some (.int .i64 bY):=(ay bR.out 1).trans rfl;have aeh:wc.cell? ⟨fO,2,none⟩=some (.int .i64 jO):=(ay bR.out 2).trans rfl;have aei:wc.cell? ⟨fO,3,none⟩=some (.int .i64 lC):=(ay bR.out 3).trans rfl;have aej:wc.cell? ⟨fO,4,none⟩=some (.int .i64 qh):=(ay bR.out 4).trans rfl;have aek:wc.cell? ⟨fO,5,none⟩=some (.int .u32 ql):=(ay bR.out 5).trans rfl;have JG:=aj bR.out 0;have JH:=aj bR.out 1;have ael:=aj bR.out 2;have aem:=aj bR.out 3;have aen:=aj bR.out 4;have aeo:=aj bR.out 5
      go_wp2_with (first|(go_at_call 130;(with_reducible refine(fM.calls qh ql bY t143 _ A15.out Jw).mono ?_);rintro e w17 ⟨rfl,hb⟩;have dB:=Y1 (bT (g:=fO) (o:=.cells #[.int .u64 aT,.int .i64 bY,.int .i64 jO,.int .i64 lC,.int .i64 qh,.int .u32 ql] 107 (0,0)) (by exact bR.out) hb);have dN:=Y1 (aU (by repeat ((with_reducible exact HB.out))) hb);clear bR;clear HB;have bR:=dB;have HB:=dN;clear dB dN;(try clear hb)))
      go_ret;exact⟨by rfl,by repeat ((with_reducible exact HB.out))⟩
     .rw[if_neg c14]at H;have rJ:decide (0<=lC)=false:=decide_eq_false c14;clear c14;obtain rfl:=aa H;cases Jw.out
def bytes_Equal.f(l0:List Int)(l1:List Int):Option (Bool):=some ((strOfNums l0).toList==(strOfNums l1).toList)
theorem bytes_Equal.calls(A0:Option dC)(c0:Nat)(l0:List Int)(A1:Option dC)(c1:Nat)(l1:List Int)(r:Bool)(w:ae)(hr0:Kd.C (Kd.int .u8) w A0 l0.length l0)(hc0:l0.length<=c0)(hr1:Kd.C (Kd.int .u8) w A1 l1.length l1)(hc1:l1.length<=c1)(h:bytes_Equal.f l0 l1=some r):
 di ag 48 #[.slice A0 l0.length c0,.slice A1 l1.length c1] w fun e w'=>e=.returned (.bool r)∧bG w w':=by
 have nS:=Y1 hr0;have xZ:=Y1 hc0;clear hr0 hc0;have HR1:=Y1 hr1;have HC1:=Y1 hc1;clear hr1 hc1;have H:=h;clear h;unfold bytes_Equal.f at H;obtain rfl:=aa H;have ahC:=Kd.DT (P:=ag) (A:=A0) (c:=c0) al eJ eK nS.out;have ahD:=Kd.DT (P:=ag) (A:=A1) (c:=c1) al eJ eK HR1.out;go_enter func48,ntmps48
 go_wp2
 go_ret;exact⟨by rfl,by repeat (exact bG.refl _)⟩
def kK.f(k:Nat)(a0:Int)(a1:Int):Option (List Int):=(dH.f k ([]:List Int) 8 (cq.wrap (a0))).bind fun t153=>((dH.f k t153 8 (cq.wrap (a1))).bind fun t156=>(some t156))
theorem kK.calls(k:Nat)(a0:Int)(a1:Int)(r:List Int)(w:ae)(h:kK.f k a0 a1=some r):
 di ag 229 #[.int .i64 a0,.int .i64 a1] w fun e w'=>∃vT:dv,e=.returned (vT)∧Kd.R (Kd.int .u8) 5 w' w.heap.size (fun _=>True) vT r∧cE w.heap.size w w':=by
 have HB:=Y1 (aw w.heap.size w);have H:=h;clear h;unfold kK.f at H;replace H:=af.mp H;obtain⟨t153,Er,H⟩:=H;have A3:=Y1 Er;clear Er;replace H:=af.mp H;obtain⟨t156,A40,H⟩:=H;have A4:=Y1 A40;clear A40;obtain rfl:=aa H;go_enter func229,ntmps229
 go_wp2_with (first|((with_reducible refine bQ (f:=117) rfl ?_);refine gJ (some 7) rfl rfl ew (by kernel_rfl) rfl #[.slice none 0 0,.int .i64 8,.int .u64 (cq.wrap (a0))] rfl (by(try simp only[aq,aE,bb]);rfl) ?_;(refine(dH.calls k _ _ ([]:List Int) 8 (cq.wrap (a0)) t153 _ ?fJ ?fK A3.out).mono ?_);(case fJ=>exact Kd.xJ _ _);(case fK=>exact bj _);rintro e w5 ⟨v154,rfl,ho0,hb⟩;refine⟨_,rfl,?_⟩;have dB:=Y1 (Kd.jG ho0 (aC (by repeat ((with_reducible exact HB.out)))));have dN:=Y1 (aU (by repeat ((with_reducible exact HB.out))) hb);clear HB;have yw:=dB;have HB:=dN;clear dB dN;(try clear hb);(try clear ho0);obtain⟨Ao6,co6,eo6⟩:=Kd.dV yw.out;subst eo6)|((with_reducible refine bQ (f:=117) rfl ?_);refine gJ (some 10) rfl rfl ew (by kernel_rfl) rfl #[.slice Ao6 t153.length co6,.int .i64 8,.int .u64 (cq.wrap (a1))] rfl (by(try simp only[aq,aE,bb]);rfl) ?_;(with_reducible refine(dH.calls k _ _ t153 8 (cq.wrap (a1)) t156 _ ?fJ ?fK A4.out).mono ?_);(case fJ=>repeat (exact(Kd.gV yw.out).2.2));(case fK=>exact(Kd.gV yw.out).2.1);rintro e w7 ⟨v157,rfl,ho0,hb⟩;refine⟨_,rfl,?_⟩;have dB:=Y1 (Kd.DR (by exact yw.out) (Kd.Gl ho0) hb);have dN:=Y1 (Kd.jG (Kd.XR ho0 (Kd.aeM (by exact yw.out))) (aC (by repeat ((with_reducible exact HB.out)))));have fD:=Y1 (aU (by repeat ((with_reducible exact HB.out))) hb);clear yw;clear HB;have yw:=dB;have abS:=dN;have HB:=fD;clear dB dN fD;(try clear hb);(try clear ho0)))
 go_ret;exact⟨_,by rfl,by exact Kd.iA abS.out (fun _ hk=>trivial),by repeat ((with_reducible exact HB.out))⟩
end
end Go.Proofs.YtlhhcnknclnlaaaGreatDoor.iH
