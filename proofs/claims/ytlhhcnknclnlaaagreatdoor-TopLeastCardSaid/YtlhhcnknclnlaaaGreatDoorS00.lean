/- Parts of the proof. -/
import Derived.Below
import Derived.Deep.Draws
import Derived.Deep.AppendLies
import Derived.Maps.AppendAt
import Derived.OwnWalk
import Derived.Laws.BytesArg
import Derived.Laws.MakeOwn
import Derived.Laws.OwnMore
import Derived.Deep.OwnRows
import Derived.Tactics
import Derived.Lib.ConvBytes
import Derived.Laws.Slices
import Derived.WalkKit
import Derived.KernelRfl
import Derived.RowKit3
import Derived.Deep.LoopGhost
import Derived.Deep.QuietTactic
import Derived.BigQuiet
import Derived.WideLaws
import Derived.Deep.DeepCutAuto
import Derived.Deep.CutBlock
import Derived.Deep.RegionHeld3
import Derived.Laws.Rows
import Derived.Lib.AppendStr
import Derived.ArgAppend
import Derived.Laws.IdiomCopy
import Derived.RowKit
import Derived.Test.YtlhhcnknclnlaaaGreatDoorProg
import Derived.Laws.LoneSync
import Derived.Laws.NewBlocks
import Derived.Laws.Externs
import Derived.Maps.OwnSet
import Derived.Sort.MapsRangeIn
import Derived.StillTail
set_option linter.all false
set_option maxRecDepth 100000
set_option maxHeartbeats 16000000
open Go renaming Value->aa,World->ae,TypeId->ao,Addr->cy,Program->cA,Oper->cC,IntKind->cE,mem_ready->cM,Act->eS,Operand->fc,Calls->fi,TypeInfo->fY,Exit->gg
open List renaming getElem?_eq_getElem->ab,getD_eq_getElem?_getD->al,length_take->an,getElem?_take->aq,getElem?_drop->ar,length_append->aw,length_drop->az,getElem?_eq_some_iff->a_,getElem?_append_left->ca,getElem?_append_right->cq,getElem?_eq_none->cx,length_set->cz,eq_nil_of_length_eq_zero->cD,filterMap_cons->cU,mem_cons->cX,mem_singleton->cY,take_succ_eq_append_getElem->dj,ext_getElem?->dp,length_singleton->dq,mem_of_mem_erase->dr,drop_append_of_le_length->dv,take_append_of_le_length->dy,mem_erase_of_ne->dC,drop_eq_getElem_cons->eh,length_erase_of_mem->ey,length_cons->eI,all_eq_true->eJ,length_pos_of_mem->eM,mem_iff_getElem?->eR,replicate->eW,mem_iff_getElem->fb,map_cons->fh,pairwise_cons->fl,take_length->ft,map_toArray->fv,any_eq_true->fw,mem_append->fR,append_nil->fS,length_map->fX,take_take->gh,map_nil->gm,mem_map->gz
open Go.Proofs.Tryz renaming prog->af,underlying79->cI,underlying9->du,ntmps70->gA,ntmps72->gC,ntmps59->gO,func70->ib,func72->ic,func59->ie
open Nat renaming mul_le_mul_right->ag,le_trans->bb,lt_of_lt_of_le->bj,le_mul_of_pos_right->bk,min_eq_left->cd,succ_mul->cm,eq_zero_or_pos->cF,le_refl->de,mul_comm->df,lt_or_ge->di,add_assoc->et,div_lt_iff_lt_mul->eQ,add_mul->fz,div_add_mod->fW,zero_add->gR,mul_one->gS,mod_lt->ik
open Go.Value renaming ownBlock->ai,int->fe,slice->fL,bool->ij
open Go.RowKit.Below renaming heap_setCell->ax,heap_alloc->dt,refl->ef
open Array renaming getElem?_eq_some_iff->aE,length_toList->cN
open Go.RowKit renaming Below->ba
open Bool renaming and_eq_true->bt
open Option.some renaming inj->bz,injEq->eo
open Option renaming map_eq_some_iff->cG,getD_some->fy
open Go.Builtin renaming append_->cH,firstCells->c_,lenOf->ew
open Go.Result renaming andThen->cJ,andThen_ok->fp
open Prod.mk renaming injEq->cW
open Go.World renaming block_lt_of_cell?->da,grownBy_alloc->dE,frozen?->fg,ownsRow_lit->fm,setCells->gi,setCell->gj,cell?->ia
open Go.Instr renaming slice->dd,makeSlice->fN,lookup->gx
open Go.Program renaming elem->dg
open Go.Addr renaming add->dT
open Int renaming toNat_natCast->ek,eq_ofNat_of_zero_le->ez,natCast_nonneg->fk
open Go.Oper renaming wp->eK
open Ne renaming symm->eN
open Go.Proofs.Tryz
namespace Go.Proofs.ah.aN
open Go.RowKit
structure aG (p:Prop):Prop where mk::(out:p)
theorem Y1 {p0:Prop}(a0:p0):aG (p0):=⟨a0⟩
theorem Y2 {p0 p1:Prop}(a0:p0)(a1:p1):aG (p0∧p1):=⟨⟨a0,a1⟩⟩
theorem Y3 {p0 p1 p2:Prop}(a0:p0)(a1:p1)(a2:p2):aG (p0∧p1∧p2):=⟨⟨a0,a1,a2⟩⟩
theorem Y4 {p0 p1 p2 p3:Prop}(a0:p0)(a1:p1)(a2:p2)(a3:p3):aG (p0∧p1∧p2∧p3):=⟨⟨a0,a1,a2,a3⟩⟩
theorem Y5 {p0 p1 p2 p3 p4:Prop}(a0:p0)(a1:p1)(a2:p2)(a3:p3)(a4:p4):aG (p0∧p1∧p2∧p3∧p4):=⟨⟨a0,a1,a2,a3,a4⟩⟩
theorem Y6 {p0 p1 p2 p3 p4 p5:Prop}(a0:p0)(a1:p1)(a2:p2)(a3:p3)(a4:p4)(a5:p5):aG (p0∧p1∧p2∧p3∧p4∧p5):=⟨⟨a0,a1,a2,a3,a4,a5⟩⟩
theorem Y7 {p0 p1 p2 p3 p4 p5 p6:Prop}(a0:p0)(a1:p1)(a2:p2)(a3:p3)(a4:p4)(a5:p5)(a6:p6):aG (p0∧p1∧p2∧p3∧p4∧p5∧p6):=⟨⟨a0,a1,a2,a3,a4,a5,a6⟩⟩
theorem Y8 {p0 p1 p2 p3 p4 p5 p6 p7:Prop}(a0:p0)(a1:p1)(a2:p2)(a3:p3)(a4:p4)(a5:p5)(a6:p6)(a7:p7):aG (p0∧p1∧p2∧p3∧p4∧p5∧p6∧p7):=⟨⟨a0,a1,a2,a3,a4,a5,a6,a7⟩⟩
theorem Y9 {p0 p1 p2 p3 p4 p5 p6 p7 p8:Prop}(a0:p0)(a1:p1)(a2:p2)(a3:p3)(a4:p4)(a5:p5)(a6:p6)(a7:p7)(a8:p8):aG (p0∧p1∧p2∧p3∧p4∧p5∧p6∧p7∧p8):=⟨⟨a0,a1,a2,a3,a4,a5,a6,a7,a8⟩⟩
theorem Wo {p0 p1 p2 p3 p4 p5 p6 p7 p8 p9:Prop}(a0:p0)(a1:p1)(a2:p2)(a3:p3)(a4:p4)(a5:p5)(a6:p6)(a7:p7)(a8:p8)(a9:p9):aG (p0∧p1∧p2∧p3∧p4∧p5∧p6∧p7∧p8∧p9):=⟨⟨a0,a1,a2,a3,a4,a5,a6,a7,a8,a9⟩⟩
theorem Y12 {p0 p1 p2 p3 p4 p5 p6 p7 p8 p9 Sv Sw:Prop}(a0:p0)(a1:p1)(a2:p2)(a3:p3)(a4:p4)(a5:p5)(a6:p6)(a7:p7)(a8:p8)(a9:p9)(DF:Sv)(Wp:Sw):aG (p0∧p1∧p2∧p3∧p4∧p5∧p6∧p7∧p8∧p9∧Sv∧Sw):=⟨⟨a0,a1,a2,a3,a4,a5,a6,a7,a8,a9,DF,Wp⟩⟩
theorem Y13 {p0 p1 p2 p3 p4 p5 p6 p7 p8 p9 Sv Sw p12:Prop}(a0:p0)(a1:p1)(a2:p2)(a3:p3)(a4:p4)(a5:p5)(a6:p6)(a7:p7)(a8:p8)(a9:p9)(DF:Sv)(Wp:Sw)(a12:p12):aG (p0∧p1∧p2∧p3∧p4∧p5∧p6∧p7∧p8∧p9∧Sv∧Sw∧p12):=⟨⟨a0,a1,a2,a3,a4,a5,a6,a7,a8,a9,DF,Wp,a12⟩⟩
theorem ex{α:Sort _}(e:α):∃x,x=e:=⟨e,rfl⟩
structure bG (w w':ae):Prop where mk::(out:∃n,w'=w.drewN n)
theorem bG.refl(w:ae):bG w w:=⟨⟨0,rfl⟩⟩
variable {W w w1:ae}
theorem bG.step{w':ae}(h:bG w w')(n:Nat):bG w (w'.drewN n):=by
 obtain⟨m,rfl⟩:=h;exact⟨⟨m+n,World.drewN_drewN ..⟩⟩
def rd(xs:List Int)(i:Int):Int:=xs.getD i.toNat 0
def nums(k:cE)(xs:List Int):List aa:=xs.map fun x=>.int k x
def bools(xs:List Bool):List aa:=xs.map fun x=>.bool x
theorem dY(h:ba w.heap.size w W)(o:Obj):ba w.heap.size w (W.alloc o):=h.alloc h.size o
variable {B base n:Nat}
theorem xH(h:ba B w W):ba B w W.drew:=⟨h.os,h.tape,h.output,h.size,h.block⟩
theorem aZ(h:ba B w W)(n:Nat):ba B w (W.drewN n):=⟨h.os,h.tape,h.output,h.size,h.block⟩
theorem Gg{w2:ae}(h:ba B w w1)(hB:B<=w1.heap.size)(k:ba w1.heap.size w1 w2):ba B w w2:=
 h.trans ⟨k.os,k.tape,k.output,k.size,fun i hi=>k.block i (bj hi hB)⟩
variable {v:aa}
theorem zC(h:ba w.heap.size w w1){a:cy}(hc:w.cell? a=some v):w1.cell? a=some v:=(h.cell (da w a hc)).trans hc
theorem add_plain(g j:Nat):(⟨g,0,none⟩:cy).add j=⟨g,j,none⟩:=by unfold dT;split<;>simp_all
def jc(w:ae)(k:cE)(A:Option cy)(n:Nat)(xs:List Int):Prop:=
 xs.length=n∧n<=9223372036854775807∧(0<n->∃ad,A=some ad∧∀j,j<n->w.cell? (ad.add j)=some (.int k (xs.getD j 0)))
theorem jc.at_{k:cE}{A:Option cy}{xs:List Int}(h:jc w k A n xs)(i:Int)(h0:0<=i)(h1:i<n):∃ad,A=some ad∧w.cell? (ad.add i.toNat)=some (.int k (rd xs i)):=by
 obtain⟨ad,e,hc⟩:=h.2.2 (by omega);exact⟨ad,e,hc _ (by omega)⟩
theorem wP(W:ae)(base:Nat)(e:ao)(size:Nat):W.ownsRow base e size (.slice none 0 0) 0 []:=⟨by simp,.inl ⟨rfl,rfl⟩⟩
variable {xs:List aa}
theorem iM{e:ao}{size:Nat}(h:w.ownsRow base e size v n xs)(k:Nat)(hk:v.ownBlock=some k):base<=k:=by
 rcases h.2 with⟨rfl,_⟩|⟨g,cap,cur,rfl,hb,_⟩
 .simp[ai]at hk
 .have:g=k:=by simpa[ai]using hk
  omega
theorem bJ{e:ao}{size:Nat}(h:w.ownsRow base e size v n xs)(k:Nat)(hk:v.ownBlock=some k):k<w.heap.size:=by
 rcases h.2 with⟨rfl,_⟩|⟨g,cap,cur,rfl,hb,hh,_⟩
 .simp[ai]at hk
 .have:g=k:=by simpa[ai]using hk
  subst this;exact(aE.1 hh).1
theorem aW{e:ao}{size:Nat}(h:w.ownsRow base e size v n xs):∃A c,v=.slice A n c:=by
 rcases h.2 with⟨rfl,rfl⟩|⟨g,cap,cur,rfl,_⟩
 .exact⟨none,0,rfl⟩
 .exact⟨_,cap,rfl⟩
section
variable {P:cA}
theorem XJ(t e:ao)(k:cE)(bytes:Nat)(ht:P.underlying t=some (.slice e))(hinfo:(P.info? e).map (fun i=>(i.zero,i.size,i.bytes))=some (some (.int k 0),1,bytes))(hb0:0<bytes)(m:Nat)(hn:m*bytes<=281474976710656):
 ∀W:ae,(fN t (.int .i64 (m:Int)) (.int .i64 (m:Int))).run P W=.ok (.slice (some ⟨W.heap.size,0,none⟩) m m) (W.alloc (.cells (madeCells #[.int k 0] m) e)):=by
 intro W;have hm:=bb (bk _ hb0) hn;exact run_make_row' t e (.int k 0) bytes ht hinfo rfl .i64 .i64 m (by rw[df];exact hn) (by omega) W
end
theorem DI(s:ByteArray):s.data.toList.length=s.size:=by rw[cN];rfl
theorem jc.vH{w:ae}{k:cE}{A:Option cy}{n:Nat}{xs:List Int}(h:jc w k A n xs)(i:Nat)(hi:i<=n):jc w k A i (xs.take i):=by
 refine⟨by rw[an,h.1];omega,by have:=h.2.1;omega,fun hp=>?_⟩;obtain⟨ad,e,hc⟩:=h.2.2 (by omega);refine⟨ad,e,fun j hj=>?_⟩;rw[hc j (by omega)];simp[al,hj]
variable {A:Option cy}{n:Nat}{w:ae}
theorem jc.I9{k:cE}{c:Nat}{xs:List Int}(h:jc w k A n xs)(i:Nat)(hi:i<=n)(hc:n<=c):jc w k (if c=i then A else A.map (·.add i)) (n-i) (xs.drop i):=by
 refine⟨by rw[az,h.1],by have:=h.2.1;omega,fun hp=>?_⟩;obtain⟨ad,rfl,hcell⟩:=h.2.2 (by omega);rw[if_neg (by omega)];refine⟨ad.add i,rfl,fun j hj=>?_⟩;have ha:(ad.add i).add j=ad.add (i+j):=by
  unfold dT;by_cases h1:i=0<;>by_cases h2:j=0<;>simp[h1,h2,et]
 rw[ha,hcell (i+j) (by omega)];simp[al,ar]
theorem aaM{P:cA}(t e:ao)(kl:cE){i:fY}(ht:P.underlying t=some (.slice e))(hi:P.info? e=some i)(hsz:i.size=1)(A:Option cy)(n c m:Nat)(hm:m<=n):
 ∃A':Option cy,(∀W:ae,(dd t (.slice A n c) (some (.int kl (m:Int))) none none).run P W=.ok (.slice A' (n-m) (c-m)) W)∧
  ∀(w:ae) (k:cE) (xs:List Int),n<=c->jc w k A n xs->jc w k A' (n-m) (xs.drop m):=by
 refine⟨if c=m then A else A.map (·.add m),fun W=>?_,fun w k xs hc h=>h.I9 m hm hc⟩;have hel:P.elem t=e:=by simp[dg,ht]
 have hu:P.underlying t=some (.slice (P.elem t)):=by rw[hel];exact ht
 rw[run_slice_l W t A n c hu kl (m:Int) (fk _) (by omega),hel];simp[sizeOf,typeInfo,hi,hsz,sliced,cJ]
variable {α:Type}
def gZ(R:α->List aa->Prop)(size:Nat)(ps:List α)(cs:List aa):Prop:=
 cs.length=ps.length*size∧∀j p,ps[j]? =some p->R p ((cs.drop (j*size)).take size)
theorem gZ.none(R:α->List aa->Prop)(size:Nat):gZ R size [] []:=⟨by simp,fun j p h=>by simp at h⟩
variable {cs:List aa}
theorem gZ.snoc{R:α->List aa->Prop}{size:Nat}{ps:List α}{c:List aa}{p:α}(h:gZ R size ps cs)(hp:R p c)(hc:c.length=size):gZ R size (ps++[p]) (cs++c):=by
 refine⟨by rw[aw,h.1,hc,aw,dq,fz,Nat.one_mul],fun j q hq=>?_⟩;rcases di j ps.length with hj|hj
 .rw[ca hj]at hq;have h1:j*size+size<=cs.length:=by rw[h.1,<-cm];exact ag _ hj
  have h2:=h.2 j q hq;rw[dv (by omega),dy (by rw[az];omega)];exact h2
 .have hj':j=ps.length:=by
   have:=(a_.1 hq).1;rw[aw,dq]at this;omega
  subst hj';have hq':p=q:=by simpa using hq
  subst hq';rw[<-h.1,List.drop_left,<-hc,ft];exact hp
theorem gZ.nN{R R':α->List aa->Prop}{size:Nat}{ps:List α}(h:gZ R size ps cs)(hR:∀p c,R p c->R' p c):gZ R' size ps cs:=⟨h.1,fun j p hj=>hR _ _ (h.2 j p hj)⟩
def f_(R:α->List aa->Prop)(size:Nat)(w:ae)(A:Option cy)(n:Nat)(ps:List α):Prop:=
 ps.length=n∧n<=9223372036854775807∧(0<n->∃ad,A=some ad∧∀j p,ps[j]? =some p->∃c,c.length=size∧R p c∧∀i u,c[i]? =some u->w.cell? (ad.add (j*size+i))=some u)
theorem f_.aeL{R:α->List aa->Prop}{size:Nat}{ps:List α}(h:f_ R size w A n ps)(d:α)(i:Int)(h0:0<=i)(h1:i<n):
 ∃ad c,A=some ad∧c.length=size∧R (ps.getD i.toNat d) c∧∀j u,c[j]? =some u->w.cell? (ad.add (i.toNat*size+j))=some u:=by
 obtain⟨ad,e,hc⟩:=h.2.2 (by omega);have hl:i.toNat<ps.length:=by have:=h.1;omega
 obtain⟨c,hs,hr,hcell⟩:=hc i.toNat _ (ab hl);refine⟨ad,c,e,hs,?_,hcell⟩;rw[al,ab hl];exact hr
theorem f_.nN{R R':α->List aa->Prop}{size:Nat}{w1:ae}{ps:List α}(h:f_ R size w A n ps)(hb:ba w.heap.size w w1)(hR:∀p c,R p c->R' p c):f_ R' size w1 A n ps:=
 ⟨h.1,h.2.1,fun hn=>by
  obtain⟨ad,e,hc⟩:=h.2.2 hn;refine⟨ad,e,fun j p hj=>?_⟩;obtain⟨c,hs,hr,hcell⟩:=hc j p hj;exact⟨c,hs,hR _ _ hr,fun i u hu=>zC hb (hcell i u hu)⟩⟩
theorem zD{R:α->List aa->Prop}{base size:Nat}{e:ao}{v:aa}{ps:List α}(h:w.ownsRow base e size v n cs)(hR:gZ R size ps cs)(hn:ps.length=n):
 ∃A c,v=.slice A n c∧f_ R size w A n ps:=by
 rcases cF n with h0|h0
 .rcases h.2 with⟨rfl,rfl⟩|⟨g,cap,cur,rfl,_⟩
  .exact⟨none,0,rfl,hn,by omega,fun hp=>absurd hp (by omega)⟩
  .exact⟨_,cap,rfl,hn,by omega,fun hp=>absurd hp (by omega)⟩
 .obtain⟨g,cap,rfl,_,_⟩:=h.form h0;have hm:n<=9223372036854775807:=by
   rcases h.2 with⟨_,h1⟩|⟨g',cap',cur,he,_,_,h1,h2,_⟩
   .omega
   .simp only[maxLen]at h2;omega
  refine⟨_,cap,rfl,hn,hm,fun _=>⟨_,rfl,fun j p hj=>⟨(cs.drop (j*size)).take size,?_,hR.2 j p hj,fun i u hu=>?_⟩⟩⟩
  .have hjl:=(a_.1 hj).1;have h1:j*size+size<=cs.length:=by rw[hR.1,<-cm];exact ag _ hjl
   rw[an,az];omega
  .refine h.cells (g:=g) rfl _ u ?_;rw[aq]at hu
   split at hu
   .rw[ar]at hu;exact hu
   .cases hu
theorem zY(ad:cy)(m j:Nat)(hj:0<j):ad.add (m+j)=⟨(ad.add m).block,(ad.add m).off+j,none⟩:=by
 unfold dT;by_cases hm:m=0
 .subst hm;simp[Nat.ne_of_gt hj]
 .simp[hm,et]
section
variable {P:cA} {ops:Array cC} {rest:List cC} {o:cC} {a:eS} {Q:gg->eS->ae->Prop}
theorem rR{w0 W:ae}(base:Nat)(hgd:o.guard=none)(s x:fc)(t e:ao)(z:aa)(size bytes:Nat)(ho:o.op=.call {callee:=.builtin .append,args:= #[s,x],argTypes:= #[t,t]})(ht:P.underlying t=some (.slice e))(hinfo:(P.info? e).map (fun i=>(i.zero,i.size,i.bytes))=some (some z,size,bytes))(hz:z.cells.size=size)(hs0:0<size)(hb0:0<bytes)(v:aa)(n:Nat)(xs ys:List aa)(hs:a.eval s=v)(hx:a.eval x=.slice (some ⟨W.heap.size,0,none⟩) 1 1)(hys:ys.length=size)(h1:∀u∈ys,u.oneCell'=true)(HO:W.ownsRow base e size v n xs)(HB:ba base w0 W)(hbase:base<=W.heap.size)(hl:(n+1)*bytes<=140737488355328)(h:∀v1 w1,w1.ownsRow base e size v1 (n+1) (xs++ys)->ba base w0 w1->W.grownBy w1 v.ownBlock->(v1.ownBlock=v.ownBlock∨∃b,v1.ownBlock=some b∧W.heap.size<=b)->wpList P ops Q rest (a.put o.dst v1) w1):
 wpList P ops Q (o::rest) a (W.alloc (.cells ys.toArray e)):=by
 obtain⟨i0,hi,hzz⟩:=cG.1 hinfo;simp only[cW]at hzz;obtain⟨hz0,hz1,hz2⟩:=hzz;have hlen:=bb (bk _ hb0) hl;refine wpList_append_own_at (W.alloc (.cells ys.toArray e)) hgd s x t ho base e i0 z size bytes ht hi hz0 hz1 hz2 hz hs0 v n xs hs (HO.alloc _) ⟨W.heap.size,0,none⟩ 1 1 ys hx (by rw[hys];simp)
  (by simpa using World.news_of_block (cs:=ys.toArray) (t:=e) (fr:=(0,0)) (heap_alloc_new W (.cells ys.toArray e))) h1 (by simp only[maxLen];omega) hl (by simp;omega) ?_
 intro v1 w1 hown hg _ hat;refine h v1 w1 hown ((HB.alloc hbase _).grown hg (by simp;omega) (iM HO)) (World.grownBy.trans (dE W _ _) hg) ?_;rcases hat with hat|hat
 .exact .inl hat
 .exact .inr ⟨_,hat,by simp⟩
end
variable {base g n:Nat}{cs:Array aa}{v:aa}{w w1:ae}{xs:List aa}
theorem own_ne{e t:ao}{size:Nat}(h:w.ownsRow base e size v n xs)(hg:w.heap[g]? =some (.cells cs t (0,0)))(hne:e≠t):some g≠v.ownBlock:=by
 rcases h.2 with⟨rfl,_⟩|⟨g',cap,cur,rfl,_,hh,_⟩
 .simp[ai]
 .intro he;have:g=g':=by simpa[ai]using he
  subst this;rw[hg]at hh;injection hh with hh;injection hh with _ ht;exact hne ht.symm
variable {p:cy}
theorem b_{e:ao}{size:Nat}(h:w.ownsRow base e size v n xs)(hne:some p.block≠v.ownBlock)(u:aa):(w.setCell p u).ownsRow base e size v n xs:=by
 obtain⟨h1,h2⟩:=h;refine⟨h1,?_⟩;rcases h2 with h2|⟨g,cap,cur,rfl,hg,hh,r⟩
 .exact .inl h2
 .exact .inr ⟨g,cap,cur,rfl,hg,by rw[ax _ _ _ _ (fun e=>hne (by rw[e];rfl))];exact hh,r⟩
theorem I_{t:ao}(h:w.heap[g]? =some (.cells cs t (0,0)))(i:Nat)(u:aa):(w.setCell ⟨g,i,none⟩ u).heap[g]? =some (.cells (cs.setIfInBounds i u) t (0,0)):=by
 simp[gj,Array.getElem?_modify,h]
theorem BO{t:ao}(h:w.heap[g]? =some (.cells cs t (0,0)))(hp:g≠p.block)(u:aa):(w.setCell p u).heap[g]? =some (.cells cs t (0,0)):=(ax w p u g hp).trans h
variable {o:Obj}
theorem jd(h:w.heap[g]? =some o):g<w.heap.size:=(aE.1 h).1
theorem ay{t:ao}(h:w.heap[g]? =some (.cells cs t (0,0)))(i:Nat):w.cell? ⟨g,i,none⟩=cs[i]? :=cell_of_row w g i cs t (0,0) h
theorem aj{t:ao}(h:w.heap[g]? =some (.cells cs t (0,0)))(i:Nat):w.frozen? ⟨g,i,none⟩=false:=by simp[fg,h]
variable {row:Option Nat}
theorem qE(h:w.heap[g]? =some o)(hg:w.grownBy w1 row)(hne:some g≠row):w1.heap[g]? =some o:=(hg.block g (jd h) hne).trans h
def qF(w w':ae)(g:Nat)(row:Option Nat):Prop:=w.heap.size<=w'.heap.size∧∀i,i<w.heap.size->i≠g->some i≠row->w'.heap[i]? =w.heap[i]?
theorem qF.trans{w2:ae}{XK:Option Nat}(h:qF w w1 g row)(k:qF w1 w2 g XK)(hr:XK=row∨∃b,XK=some b∧w.heap.size<=b):qF w w2 g row:=
 ⟨bb h.1 k.1,fun i hi hg hn=>by
  refine(k.2 i (bj hi h.1) hg ?_).trans (h.2 i hi hg hn);rcases hr with rfl|⟨b,rfl,hb⟩
  .exact hn
  .intro e;injection e with e;omega⟩
theorem Gh{base':Nat}{e:ao}{size:Nat}(h:w.ownsRow base e size v n xs)(hb:base'<=base):w.ownsRow base' e size v n xs:=by
 obtain⟨h1,h2⟩:=h;refine⟨h1,?_⟩;rcases h2 with h2|⟨g,cap,cur,rfl,hg,r⟩
 .exact .inl h2
 .exact .inr ⟨g,cap,cur,rfl,bb hb hg,r⟩
section
variable {α:Type} {enc:α->aa} {d:α}
def encs(enc:α->aa)(xs:List α):List aa:=xs.map enc
def rE(d:α)(xs:List α)(i:Int):α:=xs.getD i.toNat d
theorem vI(xs:List α):(encs enc xs).length=xs.length:=by simp[encs]
theorem DJ(xs:List α)(j:Nat)(h:j<xs.length):(encs enc xs)[j]? =some (enc (xs.getD j d)):=by
 simp[encs,ab h,al]
def eZ(enc:α->aa)(d:α)(w:ae)(A:Option cy)(n:Nat)(xs:List α):Prop:=
 xs.length=n∧n<=9223372036854775807∧(0<n->∃ad,A=some ad∧∀j,j<n->w.cell? (ad.add j)=some (enc (xs.getD j d)))
variable {A:Option cy}{W w:ae}{base g n:Nat}{xs:List α}
theorem eZ.at_(h:eZ enc d w A n xs)(i:Int)(h0:0<=i)(h1:i<n):∃ad,A=some ad∧w.cell? (ad.add i.toNat)=some (enc (rE d xs i)):=by
 obtain⟨ad,e,hc⟩:=h.2.2 (by omega);exact⟨ad,e,hc _ (by omega)⟩
theorem eZ.vH{w:ae}{A:Option cy}{n:Nat}{xs:List α}(h:eZ enc d w A n xs)(i:Nat)(hi:i<=n):eZ enc d w A i (xs.take i):=by
 refine⟨by rw[an,h.1];omega,by have:=h.2.1;omega,fun hp=>?_⟩;obtain⟨ad,e,hc⟩:=h.2.2 (by omega);refine⟨ad,e,fun j hj=>?_⟩;rw[hc j (by omega)];simp[al,hj]
theorem eZ.I9{c:Nat}(h:eZ enc d w A n xs)(i:Nat)(hi:i<=n)(hc:n<=c):eZ enc d w (if c=i then A else A.map (·.add i)) (n-i) (xs.drop i):=by
 refine⟨by rw[az,h.1],by have:=h.2.1;omega,fun hp=>?_⟩;obtain⟨ad,rfl,hcell⟩:=h.2.2 (by omega);rw[if_neg (by omega)];refine⟨ad.add i,rfl,fun j hj=>?_⟩;have ha:(ad.add i).add j=ad.add (i+j):=by
  unfold dT;by_cases h1:i=0<;>by_cases h2:j=0<;>simp[h1,h2,et]
 rw[ha,hcell (i+j) (by omega)];simp[al,ar]
variable {P:cA}
theorem BP(enc:α->aa)(d:α)(t e:ao)(kl:cE){i:fY}(ht:P.underlying t=some (.slice e))(hi:P.info? e=some i)(hsz:i.size=1)(A:Option cy)(n c m:Nat)(hm:m<=n):
 ∃A':Option cy,(∀W:ae,(dd t (.slice A n c) (some (.int kl (m:Int))) none none).run P W=.ok (.slice A' (n-m) (c-m)) W)∧
  ∀(w:ae) (xs:List α),n<=c->eZ enc d w A n xs->eZ enc d w A' (n-m) (xs.drop m):=by
 refine⟨if c=m then A else A.map (·.add m),fun W=>?_,fun w xs hc h=>h.I9 m hm hc⟩;have hel:P.elem t=e:=by simp[dg,ht]
 have hu:P.underlying t=some (.slice (P.elem t)):=by rw[hel];exact ht
 rw[run_slice_l W t A n c hu kl (m:Int) (fk _) (by omega),hel];simp[sizeOf,typeInfo,hi,hsz,sliced,cJ]
theorem BQ{e:ao}{v:aa}(h:w.ownsRow base e 1 v n (encs enc xs)):∃A c,v=.slice A n c∧eZ enc d w A n xs:=by
 have hl:xs.length=n:=by have:=h.1;simp[encs]at this;exact this
 rcases cF n with h0|h0
 .rcases h.2 with⟨rfl,rfl⟩|⟨g,cap,cur,rfl,_⟩
  .exact⟨none,0,rfl,hl,by omega,fun hp=>absurd hp (by omega)⟩
  .exact⟨_,cap,rfl,hl,by omega,fun hp=>absurd hp (by omega)⟩
 .obtain⟨g,cap,rfl,_,_⟩:=h.form h0;have hm:n<=9223372036854775807:=by
   rcases h.2 with⟨_,h1⟩|⟨g',cap',cur,he,_,_,h1,h2,_⟩
   .omega
   .simp only[maxLen]at h2;omega
  exact⟨_,cap,rfl,hl,hm,fun _=>⟨_,rfl,fun j hj=>h.cells (g:=g) rfl j _ (DJ xs j (by omega))⟩⟩
theorem nO(t e:ao)(z:aa)(bytes:Nat)(ht:P.underlying t=some (.slice e))(hinfo:(P.info? e).map (fun i=>(i.zero,i.size,i.bytes))=some (some z,1,bytes))(hz:z.cells= #[z])(hb0:0<bytes)(m:Nat)(hn:m*bytes<=281474976710656):
 ∀W:ae,(fN t (.int .i64 (m:Int)) (.int .i64 (m:Int))).run P W=.ok (.slice (some ⟨W.heap.size,0,none⟩) m m) (W.alloc (.cells (madeCells #[z] m) e)):=by
 intro W;have hm:=bb (bk _ hb0) hn;exact run_make_row' t e z bytes ht hinfo hz .i64 .i64 m (by rw[df];exact hn) (by omega) W
theorem KF{cap:Nat}{e:ao}(h:W.ownsRow base e 1 (.slice (some ⟨g,0,none⟩) n cap) n (encs enc xs))(i:Int)(h0:0<=i)(h1:i<n):
 W.cell? ⟨g,i.toNat,none⟩=some (enc (rE d xs i))∧W.frozen? ⟨g,i.toNat,none⟩=false:=by
 have hl:xs.length=n:=by have:=h.1;simp[encs]at this;exact this
 constructor
 .have hc:=h.cells (g:=g) rfl i.toNat _ (DJ (d:=d) xs i.toNat (by omega));rwa [add_plain]at hc
 .rcases h.2 with⟨h',_⟩|⟨g',cap',cur,h',_,hh,_⟩
  .cases h'
  .have:g=g':=by injection h' with h';injection h' with h';injection h' with h'
   subst this;simp[fg,hh]
theorem BR{cap:Nat}{e:ao}(h:W.ownsRow base e 1 (.slice (some ⟨g,0,none⟩) n cap) n (encs enc xs))(i:Int)(x:α):
 (W.setCell ⟨g,i.toNat,none⟩ (enc x)).ownsRow base e 1 (.slice (some ⟨g,0,none⟩) n cap) n (encs enc (xs.set i.toNat x))∧W.grownBy (W.setCell ⟨g,i.toNat,none⟩ (enc x)) (some g):=by
 have hs:=h.stored i.toNat (enc x);have he:(encs enc xs).set i.toNat (enc x)=encs enc (xs.set i.toNat x):=by simp[encs,List.map_set]
 rwa [he]at hs
end
variable {g:Nat}{o:Obj}{w:ae}
theorem pV(h:w.heap[g]? =some o):w.drew.heap[g]? =some o:=h
theorem qG(h:w.heap[g]? =some o)(n:Nat):(w.drewN n).heap[g]? =some o:=h
theorem bT{w1:ae}(h:w.heap[g]? =some o)(hb:ba w.heap.size w w1):w1.heap[g]? =some o:=(hb.block g (jd h)).trans h
theorem Sy(w:ae)(o:Obj):(w.alloc o).heap[w.heap.size]? =some o:=heap_alloc_new w o
section
variable {P:cA}
variable {fn:Func}{p u:Tmp}{ty:ao}
theorem dX(h:fn.results= #[.cell p ty,.tmp u])(tmps:Array aa)(w:ae)(g:Nat)(t:ao)(cs:Array aa)(fr:Nat×Nat)(d:TypeDesc)(hp:tmps.getD p undef=.pointer (some ⟨g,0,none⟩))(hg:w.heap[g]? =some (.cells cs t fr))(hu:P.underlying ty=some d)(hd:(match d with| .struct _| .array _ _=>true|_=>false)=true)(hi:(P.info? ty).map (·.size)=some cs.size):
 (results fn tmps).run P w=.ok (.tuple #[.agg cs,tmps.getD u undef]) w:=by
 have hp':tmps[p]?.getD undef=.pointer (some ⟨g,0,none⟩):=by simpa using hp
 simp[results,h,hp',asAddr,run_loadVar_row w g t ty cs fr d hg hu hd hi]
theorem iE{v:Tmp}(h:fn.results= #[.cell p ty,.tmp u,.tmp v])(tmps:Array aa)(w:ae)(g:Nat)(t:ao)(cs:Array aa)(fr:Nat×Nat)(d:TypeDesc)(hp:tmps.getD p undef=.pointer (some ⟨g,0,none⟩))(hg:w.heap[g]? =some (.cells cs t fr))(hu:P.underlying ty=some d)(hd:(match d with| .struct _| .array _ _=>true|_=>false)=true)(hi:(P.info? ty).map (·.size)=some cs.size):
 (results fn tmps).run P w=.ok (.tuple #[.agg cs,tmps.getD u undef,tmps.getD v undef]) w:=by
 have hp':tmps[p]?.getD undef=.pointer (some ⟨g,0,none⟩):=by simpa using hp
 simp[results,h,hp',asAddr,run_loadVar_row w g t ty cs fr d hg hu hd hi]
end
theorem XL{w:ae}{base n m c size:Nat}{e:ao}{A:Option cy}{xs:List aa}(h:w.ownsRow base e size (.slice A m c) n xs):m<=c:=by
 rcases h.2 with⟨he,_⟩|⟨g,cap,cur,he,_,_,hnc,_⟩
 .injection he with _ h2 h3;omega
 .injection he with _ h2 h3;omega
def kH{α:Type}(R:α->List aa->Prop)(e:ao)(size:Nat)(w:ae)(base:Nat)(v:aa)(ps:List α):Prop:=
 ∃inner,w.ownsRow base e size v ps.length inner∧gZ R size ps inner
section
variable {α:Type} {R R':α->List aa->Prop} {e:ao} {size:Nat} {w w1:ae} {base:Nat} {v:aa} {ps:List α}
theorem kH.none_(R:α->List aa->Prop)(e:ao)(size:Nat)(w:ae)(base:Nat):kH R e size w base (.slice none 0 0) []:=⟨[],wP _ _ _ _,gZ.none _ _⟩
theorem kH.nN(h:kH R e size w base v ps)(hR:∀p c,R p c->R' p c):kH R' e size w base v ps:=by
 obtain⟨inner,ho,hr⟩:=h;exact⟨inner,ho,hr.nN hR⟩
theorem kH.reads(h:kH R e size w base v ps):∃A c,v=.slice A ps.length c∧ps.length<=c∧f_ R size w A ps.length ps:=by
 obtain⟨inner,ho,hr⟩:=h;obtain⟨A,c,rfl,hrow⟩:=zD ho hr rfl;exact⟨A,c,rfl,XL ho,hrow⟩
theorem kH.Ny(h:kH R e size w base v ps){g:Nat}{t:ao}{cells:Array aa}(hb:w.heap[g]? =some (.cells cells t (0,0)))(ht:e≠t):some g≠v.ownBlock:=by
 obtain⟨inner,ho,hr⟩:=h;exact own_ne ho hb ht
end
theorem f_.Nz{α:Type}{R:α->List aa->Prop}{size:Nat}{w:ae}{ad:cy}{n:Nat}{ps:List α}(h:f_ R size w (some ad) n ps):
 ∃inner,gZ R size ps inner∧∀j u,inner[j]? =some u->w.cell? (ad.add j)=some u:=by
 have key:∀m,m<=ps.length->∃inner,gZ R size (ps.take m) inner∧∀j u,inner[j]? =some u->w.cell? (ad.add j)=some u:=by
  intro m
  induction m with
  |zero=>exact fun _=>⟨[],gZ.none _ _,fun j u hu=>by simp at hu⟩
  |succ m ih=>
   intro hm;obtain⟨inner,hr,hc⟩:=ih (by omega);obtain⟨ad',he,hcell⟩:=h.2.2 (by have:=h.1;omega);injection he with he;subst he;obtain⟨c,hcl,hp,hcc⟩:=hcell m _ (ab (show m<ps.length by omega));refine⟨inner++c,?_,fun j u hu=>?_⟩
   .rw[dj (show m<ps.length by omega)];exact hr.snoc hp hcl
   .have hil:inner.length=m*size:=by rw[hr.1,an,cd (by omega)]
    rcases di j inner.length with hj|hj
    .rw[ca hj]at hu;exact hc j u hu
    .rw[cq hj]at hu;have:=hcc (j-inner.length) u hu;rwa [hil,Nat.add_sub_cancel' (by omega)]at this
 obtain⟨inner,hr,hc⟩:=key ps.length (de _);rw[ft]at hr;exact⟨inner,hr,hc⟩
section
variable {α:Type} {P:cA}
variable {i:fY}
theorem rG(enc:α->aa)(d:α)(t e:ao)(kl:cE)(ht:P.underlying t=some (.slice e))(hi:P.info? e=some i)(hsz:i.size=1)(A:Option cy)(c:Nat)(xs:List α)(j:Int)(h0:0<=j)(hm:j<=xs.length)(hc:xs.length<=c):
 (∀W:ae,(dd t (.slice A xs.length c) none (some (.int kl j)) none).run P W=.ok (.slice A (xs.take j.toNat).length c) W)∧
  (∀w:ae,eZ enc d w A xs.length xs->eZ enc d w A (xs.take j.toNat).length (xs.take j.toNat))∧(xs.take j.toNat).length<=c:=by
 have hl:(xs.take j.toNat).length=j.toNat:=by rw[an];omega
 refine⟨fun W=>?_,fun w h=>by rw[hl];exact h.vH j.toNat (by omega),by rw[hl];omega⟩;have hel:P.elem t=e:=by simp[dg,ht]
 have hu:P.underlying t=some (.slice (P.elem t)):=by rw[hel];exact ht
 have ha:(A.map fun x=>x.add 0)=A:=by cases A<;>simp[dT]
 rw[run_slice_h W t A xs.length c hu kl j h0 (by omega),hel,hl];simp[sizeOf,typeInfo,hi,hsz,sliced,cJ,ha]
theorem zF(enc:α->aa)(d:α)(t e:ao)(kl:cE)(ht:P.underlying t=some (.slice e))(hi:P.info? e=some i)(hsz:i.size=1)(A:Option cy)(c:Nat)(xs:List α)(j:Int)(h0:0<=j)(hm:j<=xs.length)(hc:xs.length<=c):
 ∃A':Option cy,(∀W:ae,(dd t (.slice A xs.length c) (some (.int kl j)) none none).run P W=.ok (.slice A' (xs.drop j.toNat).length (c-j.toNat)) W)∧
  (∀w:ae,eZ enc d w A xs.length xs->eZ enc d w A' (xs.drop j.toNat).length (xs.drop j.toNat))∧(xs.drop j.toNat).length<=c-j.toNat:=by
 obtain⟨m,rfl⟩:=ez h0;simp only[ek];have hmn:m<=xs.length:=by omega
 obtain⟨A',h1,h2⟩:=BP (P:=P) enc d t e kl ht hi hsz A xs.length c m hmn;have hl:(xs.drop m).length=xs.length-m:=az;exact⟨A',fun W=>by rw[hl];exact h1 W,fun w h=>by rw[hl];exact h2 w xs hc h,by rw[hl];omega⟩
theorem sU(enc:α->aa)(d:α)(t e:ao)(kl kh:cE)(ht:P.underlying t=some (.slice e))(hi:P.info? e=some i)(hsz:i.size=1)(A:Option cy)(c:Nat)(xs:List α)(a b:Int)(h0:0<=a)(h1:a<=b)(hm:b<=xs.length)(hc:xs.length<=c):
 ∃A':Option cy,(∀W:ae,(dd t (.slice A xs.length c) (some (.int kl a)) (some (.int kh b)) none).run P W=.ok (.slice A' ((xs.take b.toNat).drop a.toNat).length (c-a.toNat)) W)∧
  (∀w:ae,eZ enc d w A xs.length xs->eZ enc d w A' ((xs.take b.toNat).drop a.toNat).length ((xs.take b.toNat).drop a.toNat))∧((xs.take b.toNat).drop a.toNat).length<=c-a.toNat:=by
 have hlt:(xs.take b.toNat).length=b.toNat:=by rw[an];omega
 have hl:((xs.take b.toNat).drop a.toNat).length=b.toNat-a.toNat:=by rw[az,hlt]
 refine⟨if c=a.toNat then A else A.map (·.add a.toNat),fun W=>?_,fun w h=>?_,by rw[hl];omega⟩
 .have hel:P.elem t=e:=by simp[dg,ht]
  have hu:P.underlying t=some (.slice (P.elem t)):=by rw[hel];exact ht
  rw[run_slice_lh W t A xs.length c hu kl kh a b h0 h1 (by omega),hel,hl];simp[sizeOf,typeInfo,hi,hsz,sliced,cJ]
 .have h2:=(h.vH b.toNat (by omega)).I9 (c:=c) a.toNat (by omega) (by omega);rw[hl];exact h2
end
structure Kd (α:Type) where
 sz:Nat
 E:List Nat
 K:ae->α->List aa->Prop
 M:ae->Nat->(Nat->Prop)->α->List aa->Prop
 pW:∀{w x cs},K w x cs->cs.length=sz
 nZ:∀{w x cs},K w x cs->∀u∈cs,u.oneCell'=true
 kR:∀{w w1:ae} {x cs},ba w.heap.size w w1->K w x cs->K w1 x cs
 jy:∀{w base ok x cs},M w base ok x cs->K w x cs
 fA:∀{w base ok ok' x cs},(∀k,ok k->ok' k)->M w base ok x cs->M w base ok' x cs
 gQ:∀{w:ae} {base ok x cs},M w base ok x cs->M w base (fun k=>ok k∧base<=k∧k<w.heap.size∧∃q,q∈E∧∃cells,w.heap[k]? =some (.cells cells q (0,0))) x cs
 je:∀{w w1:ae} {base ok x cs},(∀k,ok k->w1.heap[k]? =w.heap[k]?)->M w base ok x cs->M w1 base ok x cs
 kU:∀{w base base' ok x cs},base'<=base->M w base ok x cs->M w base' ok x cs
variable {base n:Nat}{v:aa}{w:ae}{xs:List aa}
theorem fq{w1:ae}{e:ao}{size:Nat}(h:w.ownsRow base e size v n xs)(hm:∀k,v.ownBlock=some k->w1.heap[k]? =w.heap[k]?):w1.ownsRow base e size v n xs:=by
 obtain⟨h1,h2⟩:=h;refine⟨h1,?_⟩;rcases h2 with h2|⟨g,cap,cur,rfl,hg,hh,r⟩
 .exact .inl h2
 .exact .inr ⟨g,cap,cur,rfl,hg,(hm g (by simp[ai])).trans hh,r⟩
theorem gG{e:ao}{size:Nat}(h:w.ownsRow base e size v n xs)(k:Nat)(hk:v.ownBlock=some k):∃cells,w.heap[k]? =some (.cells cells e (0,0)):=by
 rcases h.2 with⟨rfl,_⟩|⟨g,cap,cur,rfl,hg,hh,r⟩
 .simp[ai]at hk
 .have:g=k:=by simpa[ai]using hk
  subst this;exact⟨cur,hh⟩
namespace Kd
variable {α:Type}
def C(d:Kd α)(w:ae)(A:Option cy)(n:Nat)(xs:List α):Prop:=f_ (d.K w) d.sz w A n xs
def R(d:Kd α)(e:Nat)(w:ae)(base:Nat)(ok:Nat->Prop)(v:aa)(xs:List α):Prop:=
 (∀k,v.ownBlock=some k->ok k)∧kH (d.M w base (fun k=>ok k∧some k≠v.ownBlock)) e d.sz w base v xs
section
variable {α:Type} {d:Kd α} {e:Nat} {w w1:ae} {base:Nat} {ok ok':Nat->Prop} {v:aa} {xs:List α}
theorem bM{A:Option cy}{n:Nat}(h:d.C w A n xs)(hb:ba w.heap.size w w1):d.C w1 A n xs:=f_.nN h hb (fun _ _ hp=>d.kR hb hp)
theorem sW(d:Kd α)(e:Nat)(w:ae)(base:Nat)(ok:Nat->Prop):d.R e w base ok (.slice none 0 0) []:=⟨fun k hk=>by simp[ai]at hk,kH.none_ _ _ _ _ _⟩
theorem iA(h:d.R e w base ok v xs)(hok:∀k,ok k->ok' k):d.R e w base ok' v xs:=⟨fun k hk=>hok k (h.1 k hk),h.2.nN (fun _ _ hp=>d.fA (fun k hk=>⟨hok k hk.1,hk.2⟩) hp)⟩
theorem lT(h:d.R e w base ok v xs):d.R e w base (fun k=>ok k∧base<=k∧k<w.heap.size∧∃q,q∈e::d.E∧∃cells,w.heap[k]? =some (.cells cells q (0,0))) v xs:=by
 obtain⟨h0,inner,ho,hr⟩:=h;refine⟨fun k hk=>?_,inner,ho,hr.nN (fun _ _ hp=>d.fA (fun k hk=>?_) (d.gQ hp))⟩
 .obtain⟨cells,hc⟩:=gG ho k hk;exact⟨h0 k hk,iM ho k hk,bJ ho k hk,e,List.mem_cons_self,cells,hc⟩
 .obtain⟨⟨h1,h2⟩,h3,h4,q,hq,hc⟩:=hk;exact⟨⟨h1,h3,h4,q,List.mem_cons_of_mem _ hq,hc⟩,h2⟩
theorem xI(h:d.R e w base ok v xs)(hm:∀k,ok k->w1.heap[k]? =w.heap[k]?):d.R e w1 base ok v xs:=by
 obtain⟨h0,inner,ho,hr⟩:=h;exact⟨h0,inner,fq ho (fun k hk=>hm k (h0 k hk)),hr.nN (fun _ _ hp=>d.je (fun k hk=>hm k hk.1) hp)⟩
theorem jG{base':Nat}(h:d.R e w base ok v xs)(hb:base'<=base):d.R e w base' ok v xs:=by
 obtain⟨h0,inner,ho,hr⟩:=h;exact⟨h0,inner,Gh ho hb,hr.nN (fun _ _ hp=>d.kU hb hp)⟩
theorem Gi(h:d.R e w base ok v xs)(hm:∀k,ok k->k<w.heap.size->w1.heap[k]? =w.heap[k]?):d.R e w1 base ok v xs:=
 iA (xI (lT h) (fun k hk=>hm k hk.1 hk.2.2.1)) (fun _ hk=>hk.1)
variable {cs:List aa}{x:α}
theorem XM(h:d.M w base ok x cs)(hm:∀k,ok k->k<w.heap.size->w1.heap[k]? =w.heap[k]?):d.M w1 base ok x cs:=
 d.fA (fun _ hk=>hk.1) (d.je (fun k hk=>hm k hk.1 hk.2.2.1) (d.gQ h))
theorem eu(h:d.R e w base ok v xs)(hb:ba w.heap.size w w1):d.R e w1 base ok v xs:=Gi h (fun k _ hk=>hb.block k hk)
theorem Ja(h:d.M w base ok x cs)(hb:ba w.heap.size w w1):d.M w1 base ok x cs:=XM h (fun k _ hk=>hb.block k hk)
theorem Sz(h:d.R e w base ok v xs){row:Option Nat}(hg:w.grownBy w1 row)(hok:∀k,ok k->some k≠row):d.R e w1 base ok v xs:=Gi h (fun k ho hk=>hg.block k hk (hok k ho))
theorem vJ(h:d.R e w base ok v xs){p:cy}(hok:∀k,ok k->k≠p.block)(u:aa):d.R e (w.setCell p u) base ok v xs:=Gi h (fun k ho _=>ax w p u k (hok k ho))
variable {g:Nat}
theorem Jb(h:d.R e w base ok v xs){t:Nat}{cells:Array aa}(hb:w.heap[g]? =some (.cells cells t (0,0)))(ht:∀q,q∈e::d.E->q≠t):d.R e w base (fun k=>ok k∧k≠g) v xs:=
 iA (lT h) (fun k hk=>⟨hk.1,by
  obtain⟨_,_,_,q,hq,cells',hc⟩:=hk;rintro rfl;rw[hc]at hb;injection hb with hb;injection hb with _ hb;exact ht q hq hb⟩)
theorem wQ(h:d.R e w base ok v xs):∃A c,v=.slice A xs.length c∧xs.length<=c∧d.C w A xs.length xs:=by
 obtain⟨A,c,he,hl,hr⟩:=kH.reads h.2;exact⟨A,c,he,hl,hr.nN (ef _ _) (fun _ _ hp=>d.jy hp)⟩
theorem dV(h:d.R e w base ok v xs):∃A c,v=.slice A xs.length c:=by
 obtain⟨A,c,he,_⟩:=wQ h;exact⟨A,c,he⟩
theorem zZ(h:d.R e w base ok v xs):∃inner,w.ownsRow base e d.sz v xs.length inner:=by
 obtain⟨_,inner,ho,_⟩:=h;exact⟨inner,ho⟩
theorem KG(h:d.R e w base ok v xs){t:Nat}{cells:Array aa}(hb:w.heap[g]? =some (.cells cells t (0,0)))(ht:e≠t):some g≠v.ownBlock:=kH.Ny h.2 hb ht
end
variable {α β:Type}
def scalar(enc:α->aa)(h1:∀x,(enc x).oneCell'=true):Kd α where
 sz:=1
 E:=[]
 K:=fun _ x cs=>cs=[enc x]
 M:=fun _ _ _ x cs=>cs=[enc x]
 pW:=fun h=>by rw[h];rfl
 nZ:=fun h u hu=>by
  rw[h]at hu;rw[cY.1 hu];exact h1 _
 kR:=fun _ h=>h
 jy:=fun h=>h
 fA:=fun _ h=>h
 gQ:=fun h=>h
 je:=fun _ h=>h
 kU:=fun _ h=>h
def int(k:cE):Kd Int:=scalar (fe k) (fun _=>rfl)
def bool:Kd Bool:=scalar ij (fun _=>rfl)
def string:Kd ByteArray:=scalar Value.string (fun _=>rfl)
def slice(e:Nat)(d:Kd α):Kd (List α) where
 sz:=1
 E:=e::d.E
 K:=fun w xs cs=>∃A c,cs=[.slice A xs.length c]∧xs.length<=c∧d.C w A xs.length xs
 M:=fun w base ok xs cs=>∃v,cs=[v]∧d.R e w base ok v xs
 pW:=by
  rintro w x cs ⟨A,c,rfl,_⟩;rfl
 nZ:=by
  rintro w x cs ⟨A,c,rfl,_⟩ u hu;rw[cY.1 hu];rfl
 kR:=by
  rintro w w1 x cs hb ⟨A,c,rfl,hl,hr⟩;exact⟨A,c,rfl,hl,bM hr hb⟩
 jy:=by
  rintro w base ok x cs ⟨v,rfl,h⟩;obtain⟨A,c,rfl,hl,hr⟩:=wQ h;exact⟨A,c,rfl,hl,hr⟩
 fA:=by
  rintro w base ok ok' x cs hok ⟨v,rfl,h⟩;exact⟨v,rfl,iA h hok⟩
 gQ:=by
  rintro w base ok x cs ⟨v,rfl,h⟩;exact⟨v,rfl,lT h⟩
 je:=by
  rintro w w1 base ok x cs hm ⟨v,rfl,h⟩;exact⟨v,rfl,xI h hm⟩
 kU:=by
  rintro w base base' ok x cs hb ⟨v,rfl,h⟩;exact⟨v,rfl,jG h hb⟩
def pair(a:Kd α)(b:Kd β):Kd (α×β) where
 sz:=a.sz+b.sz
 E:=a.E++b.E
 K:=fun w x cs=>∃c0 c1,cs=c0++c1∧a.K w x.1 c0∧b.K w x.2 c1
 M:=fun w base ok x cs=>∃c0 c1,cs=c0++c1∧a.M w base ok x.1 c0∧b.M w base ok x.2 c1
 pW:=by
  rintro w x cs ⟨c0,c1,rfl,h0,h1⟩;rw[aw,a.pW h0,b.pW h1]
 nZ:=by
  rintro w x cs ⟨c0,c1,rfl,h0,h1⟩ u hu;rcases fR.1 hu with hu|hu
  .exact a.nZ h0 u hu
  .exact b.nZ h1 u hu
 kR:=by
  rintro w w1 x cs hb ⟨c0,c1,rfl,h0,h1⟩;exact⟨c0,c1,rfl,a.kR hb h0,b.kR hb h1⟩
 jy:=by
  rintro w base ok x cs ⟨c0,c1,rfl,h0,h1⟩;exact⟨c0,c1,rfl,a.jy h0,b.jy h1⟩
 fA:=by
  rintro w base ok ok' x cs hok ⟨c0,c1,rfl,h0,h1⟩;exact⟨c0,c1,rfl,a.fA hok h0,b.fA hok h1⟩
 gQ:=by
  rintro w base ok x cs ⟨c0,c1,rfl,h0,h1⟩;refine⟨c0,c1,rfl,a.fA ?_ (a.gQ h0),b.fA ?_ (b.gQ h1)⟩
  .rintro k ⟨h2,h3,h4,q,hq,hc⟩;exact⟨h2,h3,h4,q,List.mem_append_left _ hq,hc⟩
  .rintro k ⟨h2,h3,h4,q,hq,hc⟩;exact⟨h2,h3,h4,q,List.mem_append_right _ hq,hc⟩
 je:=by
  rintro w w1 base ok x cs hm ⟨c0,c1,rfl,h0,h1⟩;exact⟨c0,c1,rfl,a.je hm h0,b.je hm h1⟩
 kU:=by
  rintro w base base' ok x cs hb ⟨c0,c1,rfl,h0,h1⟩;exact⟨c0,c1,rfl,a.kU hb h0,b.kU hb h1⟩
def iso(d:Kd α)(f:β->α):Kd β where
 sz:=d.sz
 E:=d.E
 K:=fun w x cs=>d.K w (f x) cs
 M:=fun w base ok x cs=>d.M w base ok (f x) cs
 pW:=d.pW
 nZ:=d.nZ
 kR:=d.kR
 jy:=d.jy
 fA:=d.fA
 gQ:=d.gQ
 je:=d.je
 kU:=d.kU
theorem aaO{d:Kd α}{w:ae}{A:Option cy}{n:Nat}{xs:List α}(h:d.C w A n xs)(z:α)(i:Int)(h0:0<=i)(h1:i<n):
 ∃ad c,A=some ad∧c.length=d.sz∧d.K w (xs.getD i.toNat z) c∧∀j u,c[j]? =some u->w.cell? (ad.add (i.toNat*d.sz+j))=some u:=f_.aeL h z i h0 h1
theorem Gj{d:Kd α}{e base:Nat}{ok lX:Nat->Prop}{W w1:ae}{v v1:aa}{xs:List α}{p:α}{inner cs:List aa}(h0:∀k,v.ownBlock=some k->ok k)(hr:gZ (d.M W base (fun k=>ok k∧some k≠v.ownBlock)) d.sz xs inner)(hp:d.M W base lX p cs)(uQ:∀k,lX k->ok k∧some k≠v.ownBlock)(hfresh:∀k,W.heap.size<=k->ok k)(hown:w1.ownsRow base e d.sz v1 (xs.length+1) (inner++cs))(hg:W.grownBy w1 v.ownBlock)(hat:v1.ownBlock=v.ownBlock∨∃b,v1.ownBlock=some b∧W.heap.size<=b):d.R e w1 base ok v1 (xs++[p]):=by
 have hne:∀k,some k≠v.ownBlock->k<W.heap.size->some k≠v1.ownBlock:=by
  intro k hk hlt;rcases hat with hat|⟨b,hb,hle⟩
  .rw[hat];exact hk
  .rw[hb];intro he;injection he with he;omega
 have step:∀{q:α} {c:List aa} {o:Nat->Prop},d.M W base o q c->(∀k,o k->ok k∧some k≠v.ownBlock)->d.M w1 base (fun k=>ok k∧some k≠v1.ownBlock) q c:=by
  intro q c o hq ho;have h1:=d.je (w1:=w1) (fun k hk=>hg.block k hk.2.2.1 (ho k hk.1).2) (d.gQ hq);exact d.fA (fun k hk=>⟨(ho k hk.1).1,hne k (ho k hk.1).2 hk.2.2.1⟩) h1
 refine⟨fun k hk=>?_,inner++cs,by rw[aw,dq];exact hown,?_⟩
 .rcases hat with hat|⟨b,hb,hle⟩
  .exact h0 k (hat▸hk)
  .rw[hb]at hk;injection hk with hk;exact hfresh k (by omega)
 .exact(hr.nN (fun _ _ hq=>step hq (fun _ hk=>hk))).snoc (step hp uQ) (d.pW (d.jy hp))
section
variable {P:cA} {ops:Array cC} {rest:List cC} {o:cC} {a:eS} {Q:gg->eS->ae->Prop} {α:Type}
theorem tq(d:Kd α){w0 W:ae}(base:Nat)(hgd:o.guard=none)(s x:fc)(t e:ao)(z:aa)(bytes:Nat)(ho:o.op=.call {callee:=.builtin .append,args:= #[s,x],argTypes:= #[t,t]})(ht:P.underlying t=some (.slice e))(hinfo:(P.info? e).map (fun i=>(i.zero,i.size,i.bytes))=some (some z,d.sz,bytes))(hz:z.cells.size=d.sz)(hs0:0<d.sz)(hb0:0<bytes)(v:aa)(xs:List α)(p:α)(cs:List aa)(ok lX:Nat->Prop)(hs:a.eval s=v)(hx:a.eval x=.slice (some ⟨W.heap.size,0,none⟩) 1 1)(hp:d.M W base lX p cs)(uQ:∀k,lX k->ok k∧some k≠v.ownBlock)(hfresh:∀k,W.heap.size<=k->ok k)(HO:d.R e W base ok v xs)(HB:ba base w0 W)(hbase:base<=W.heap.size)(hl:(xs.length+1)*bytes<=140737488355328)(h:∀v1 w1,d.R e w1 base ok v1 (xs++[p])->ba base w0 w1->W.grownBy w1 v.ownBlock->(v1.ownBlock=v.ownBlock∨∃b,v1.ownBlock=some b∧W.heap.size<=b)->wpList P ops Q rest (a.put o.dst v1) w1):
 wpList P ops Q (o::rest) a (W.alloc (.cells cs.toArray e)):=by
 obtain⟨h0,inner,hown,hr⟩:=HO;refine rR base hgd s x t e z d.sz bytes ho ht hinfo hz hs0 hb0 v xs.length inner cs hs hx (d.pW (d.jy hp)) (d.nZ (d.jy hp)) hown HB hbase hl ?_;intro v1 w1 hown1 hb1 hg1 aaP;exact h v1 w1 (Gj h0 hr hp uQ hfresh hown1 hg1 aaP) hb1 hg1 aaP
end
variable {α:Type}
theorem DL{enc:α->aa}(xs:List α):gZ (fun (x:α) (cs:List aa)=>cs=[enc x]) 1 xs (encs enc xs):=by
 refine⟨by simp[encs],fun j p hj=>?_⟩;obtain⟨hl,hp⟩:=a_.1 hj;have hl':j<(encs enc xs).length:=by rw[vI];exact hl
 rw[gS,eh hl'];simp[encs,hp]
variable {base n:Nat}{v:aa}{w:ae}
theorem NA{enc:α->aa}{h1:∀x,(enc x).oneCell'=true}{e:Nat}{ok:Nat->Prop}{xs:List α}(ho:w.ownsRow base e 1 v xs.length (encs enc xs))(hok:∀k,v.ownBlock=some k->ok k):(scalar enc h1).R e w base ok v xs:=⟨hok,encs enc xs,ho,DL xs⟩
theorem jQ{enc:α->aa}{h1:∀x,(enc x).oneCell'=true}{e:Nat}{ok:Nat->Prop}{xs:List α}(h:(scalar enc h1).R e w base ok v xs):w.ownsRow base e 1 v xs.length (encs enc xs):=by
 obtain⟨_,inner,ho,hr⟩:=h;have:inner=encs enc xs:=by
  apply dp;intro j;rcases di j xs.length with hj|hj
  .have h2:=hr.2 j _ (ab hj);have hl:j<inner.length:=by have:=hr.1;simp[scalar]at this;omega
   have h3:(inner.drop (j*1)).take 1=[enc xs[j]]:=h2;rw[gS,eh hl]at h3;have h4:inner[j]=enc xs[j]:=by
    have h5:=congrArg List.head? h3;rw[List.take_succ_cons]at h5;exact bz h5
   rw[ab hl,h4];simp[encs,ab hj]
  .have h3:inner.length=xs.length:=by have:=hr.1;simp[scalar]at this;omega
   rw[cx (by omega),cx (by rw[vI];omega)]
 rw[<-this];exact ho
variable {A:Option cy}
theorem dP{enc:α->aa}{d:α}{h1:∀x,(enc x).oneCell'=true}{xs:List α}(h:eZ enc d w A n xs):(scalar enc h1).C w A n xs:=by
 refine⟨h.1,h.2.1,fun hn=>?_⟩;obtain⟨ad,e,hc⟩:=h.2.2 hn;refine⟨ad,e,fun j p hj=>⟨[enc p],rfl,rfl,fun i u hu=>?_⟩⟩;obtain⟨hl,hp⟩:=a_.1 hj;have h2:=hc j (by have:=h.1;omega);rw[al,hj]at h2;cases i with
 |zero=>
  have:enc p=u:=by simpa using hu
  subst this;simpa[scalar]using h2
 |succ i=>simp at hu
theorem fB{enc:α->aa}{d:α}{h1:∀x,(enc x).oneCell'=true}{xs:List α}(h:(scalar enc h1).C w A n xs):eZ enc d w A n xs:=by
 refine⟨h.1,h.2.1,fun hn=>?_⟩;obtain⟨ad,e,hc⟩:=h.2.2 hn;refine⟨ad,e,fun j hj=>?_⟩;have hl:j<xs.length:=by have:=h.1;omega
 obtain⟨c,_,hK,hcell⟩:=hc j _ (ab hl);have hK':c=[enc xs[j]]:=hK;subst hK';have:=hcell 0 _ rfl;simpa[scalar,al,ab hl]using this
end Kd
namespace Kd
theorem aaQ{α:Type}{d:Kd α}{e base:Nat}{ok:Nat->Prop}{w:ae}{v:aa}{xs:List α}(h:d.R e w base ok v xs):(slice e d).M w base ok xs [v]:=⟨v,rfl,h⟩
end Kd
namespace Kd
section
variable {α β:Type} {d:Kd α} {d':Kd β} {e e':Nat} {w w1 W:ae} {base b b':Nat} {ok ok' XO oku:Nat->Prop} {v u:aa} {xs:List α} {ys:List β}
theorem NC(h:d.R e w base ok v xs):d.R e w.drew base ok v xs:=eu h (xH (ef _ _))
theorem BS(h:d.R e w base ok v xs)(m:Nat):d.R e (w.drewN m) base ok v xs:=eu h (aZ (ef _ _) m)
theorem xJ(d:Kd α)(w:ae):d.C w none ([]:List α).length []:=⟨rfl,by simp,fun h=>absurd h (Nat.lt_irrefl 0)⟩
theorem gV{A:Option cy}{n c:Nat}(h:d.R e w base ok (.slice A n c) xs):n=xs.length∧n<=c∧d.C w A xs.length xs:=by
 obtain⟨A',c',he,hl,hr⟩:=wQ h;injection he with h1 h2 h3;subst h1;exact⟨h2,by omega,hr⟩
theorem aeM(h:d.R e w base ok v xs):∀k,v.ownBlock=some k->k<w.heap.size:=by
 obtain⟨inner,ho⟩:=zZ h;exact bJ ho
theorem Gl(h:d.R e w base ok v xs):∀k,v.ownBlock=some k->base<=k:=by
 obtain⟨inner,ho⟩:=zZ h;exact iM ho
theorem ND(h:d.R e w base ok v xs)(hp:0<xs.length):∃g cap,v=.slice (some ⟨g,0,none⟩) xs.length cap∧base<=g∧g<w.heap.size∧∃cells,w.heap[g]? =some (.cells cells e (0,0)):=by
 obtain⟨inner,ho⟩:=zZ h;obtain⟨g,cap,he,hb,hl⟩:=ho.form hp;obtain⟨cells,hc⟩:=gG ho g (by rw[he];simp[ai]);exact⟨g,cap,he,hb,hl,cells,hc⟩
theorem adO(hu:d'.R e' W b oku u ys)(h:d.R e w1 W.heap.size XO v xs)(hb:ba W.heap.size W w1):d'.R e' w1 b (fun k=>oku k∧some k≠v.ownBlock) u ys:=by
 obtain⟨inner,ho⟩:=zZ h;exact iA (xI (lT hu) (fun k hk=>hb.block k hk.2.2.1)) (fun k hk=>⟨hk.1,fun he=>by have:=iM ho k he.symm;have:=hk.2.2.1;omega⟩)
end
section
variable {w W:ae} {A:Option cy} {n:Nat}
theorem NG{k:cE}{xs:List Int}(h:(Kd.int k).C w A n xs)(i:Int)(h0:0<=i)(h1:i<n):∃ad,A=some ad∧w.cell? (ad.add i.toNat)=some (.int k (rd xs i)):=
 eZ.at_ (fB (enc:=fe k) (d:=(0:Int)) (h1:=fun _=>rfl) h) i h0 h1
theorem Jc{xs:List Bool}(h:Kd.bool.C w A n xs)(i:Int)(h0:0<=i)(h1:i<n):∃ad,A=some ad∧w.cell? (ad.add i.toNat)=some (.bool (rE false xs i)):=
 eZ.at_ (fB (enc:=ij) (d:=false) (h1:=fun _=>rfl) h) i h0 h1
variable {α:Type} {enc:α->aa} {h1:∀x,(enc x).oneCell'=true} {e base g cap:Nat} {ok:Nat->Prop} {xs:List α}
theorem XP(d:α)(h:(scalar enc h1).R e W base ok (.slice (some ⟨g,0,none⟩) xs.length cap) xs)(i:Int)(h0:0<=i)(hi:i<xs.length):W.cell? ⟨g,i.toNat,none⟩=some (enc (rE d xs i))∧W.frozen? ⟨g,i.toNat,none⟩=false:=KF (jQ h) i h0 hi
theorem aaR(h:(scalar enc h1).R e W base ok (.slice (some ⟨g,0,none⟩) xs.length cap) xs)(i:Int)(x:α):(scalar enc h1).R e (W.setCell ⟨g,i.toNat,none⟩ (enc x)) base ok (.slice (some ⟨g,0,none⟩) xs.length cap) (xs.set i.toNat x)∧W.grownBy (W.setCell ⟨g,i.toNat,none⟩ (enc x)) (some g):=by
 obtain⟨ho,hg⟩:=BR (jQ h) i x;exact⟨NA (by rw[cz];exact ho) h.1,hg⟩
end
section
variable {P:cA} {ops:Array cC} {rest:List cC} {o:cC} {a:eS} {Q:gg->eS->ae->Prop}
theorem Aa{W w1:ae}{v:aa}(hgd:o.guard=none)(hrun:(execOp a.eval o).run P W=.ok (.value v) w1)(h:wpList P ops Q rest (a.put o.dst v) w1):wpList P ops Q (o::rest) a W:=by
 refine wpList_plain hgd fun K hK=>?_
 unfold eK;rw[hrun];exact hK _ _ h
variable {α:Type}
variable {N:Tmp}{W w0:ae}{lX:Nat->Prop}
theorem xK(d:Kd α)(base e:Nat)(hgd:o.guard=none)(_hd:o.dst=some N){xs:List α}{inner:List aa}{ok:Nat->Prop}(hrun:(execOp a.eval o).run P W=.ok (.value (.slice (some ⟨W.heap.size,0,none⟩) xs.length xs.length)) (W.alloc (.cells inner.toArray e)))(hrep:gZ (d.M W base lX) d.sz xs inner)(hok:∀k,lX k->ok k)(hfresh:ok W.heap.size)(HB:ba base w0 W)(hbase:base<=W.heap.size)(hm:xs.length<=9223372036854775807)(h:∀v1 w1,d.R e w1 base ok v1 xs->ba base w0 w1->W.grownBy w1 none->(∃b,v1.ownBlock=some b∧W.heap.size<=b)->wpList P ops Q rest (a.put o.dst v1) w1):wpList P ops Q (o::rest) a W:=by
 refine Aa hgd hrun (h _ _ ⟨fun k hk=>?_,inner,?_,?_⟩ (HB.alloc hbase _) (dE W _ none) ⟨W.heap.size,by simp[ai],de _⟩)
 .have:W.heap.size=k:=by simpa[ai]using hk
  subst this;exact hfresh
 .have h2:=fm (base:=base) (e:=e) (size:=d.sz) W inner.toArray xs.length hbase (by simpa[maxLen]using hm) (by simpa using hrep.1);simpa using h2
 .refine hrep.nN (fun p c hp=>d.fA (fun k hk=>⟨hok k hk.1,fun he=>?_⟩) (Ja (d.gQ hp) (dY (ef _ _) _)));have h3:k=W.heap.size:=by simpa[ai]using he
  have:=hk.2.2.1;omega
theorem Ab{α:Type}{R:α->List aa->Prop}{z:aa}{size:Nat}{z0:α}(hz:z.cells.size=size)(hs:0<size)(h0:R z0 z.cells.toList)(m:Nat):gZ R size (eW m z0) (madeCells z.cells (m*size)).toList:=by
 refine⟨by simp[size_madeCells],fun j p hj=>?_⟩;obtain⟨hjl,hp⟩:=a_.1 hj;have hjm:j<m:=by simpa using hjl
 have hp':z0=p:=by simpa using hp
 subst hp';have hle:j*size+size<=m*size:=by rw[<-cm];exact ag _ hjm
 have:((madeCells z.cells (m*size)).toList.drop (j*size)).take size=z.cells.toList:=by
  apply List.ext_getElem
  .simp[size_madeCells,hz];omega
  .intro i h1 h2;have hi:i<size:=by rw[cN,hz]at h2;exact h2
   have hmod:(j*size+i)%size=i:=by
    rw[df,Nat.mul_add_mod];exact Nat.mod_eq_of_lt hi
   simp[madeCells,hz,hmod];rw[getElem!_pos z.cells i (by omega)]
 rw[this];exact h0
theorem NH(d:Kd α)(base e:Nat)(hgd:o.guard=none)(hd:o.dst=some N)(t:ao)(x y:fc)(ho:o.op=.makeSlice t x y)(n:Int)(hx:a.eval x=.int .i64 n)(hy:a.eval y=.int .i64 n)(ht:P.underlying t=some (.slice e))(z:aa)(bytes:Nat)(hinfo:(P.info? e).map (fun i=>(i.zero,i.size,i.bytes))=some (some z,d.sz,bytes))(hz:z.cells.size=d.sz)(hs0:0<d.sz)(hb0:0<bytes)(z0:α){ok:Nat->Prop}(hzero:d.M W base lX z0 z.cells.toList)(hok:∀k,lX k->ok k)(hfresh:ok W.heap.size)(h0:0<=n)(hl:n.toNat*bytes<=281474976710656)(HB:ba base w0 W)(hbase:base<=W.heap.size)(h:∀v1 w1,d.R e w1 base ok v1 (eW n.toNat z0)->ba base w0 w1->W.grownBy w1 none->(∃b,v1.ownBlock=some b∧W.heap.size<=b)->wpList P ops Q rest (a.put o.dst v1) w1):wpList P ops Q (o::rest) a W:=by
 obtain⟨m,rfl⟩:=ez h0;simp only[ek]at hl h;obtain⟨i0,hi,hzz⟩:=cG.1 hinfo;simp only[cW]at hzz;obtain⟨hz0,hz1,hz2⟩:=hzz;have hm:m<=281474976710656:=bb (bk _ hb0) hl;have hr:=run_make (P:=P) W t e i0 z ht hi hz0 .i64 .i64 (m:Int) (m:Int) (by omega) (by omega)
  (by
   have h3:((i0.bytes*m:Nat):Int)<=281474976710656:=by rw[hz2,df];omega
   rwa [Int.natCast_mul]at h3) (by omega)
 simp only[ek]at hr;rw[hz1]at hr;refine xK d base e hgd hd (xs:=eW m z0) (inner:=(madeCells z.cells (m*d.sz)).toList) (lX:=lX) (ok:=ok) ?_ (Ab hz hs0 hzero m) hok hfresh HB hbase (by simp;omega) h;simp[execOp,ho,hx,hy,hr]
end
end Kd
theorem NI{w:ae}{base n m c size:Nat}{e:ao}{A:Option cy}{xs:List aa}(h:w.ownsRow base e size (.slice A n c) n xs)(hm:m<=n):w.ownsRow base e size (.slice A m c) m (xs.take (m*size)):=by
 obtain⟨h1,h2⟩:=h;refine⟨by rw[an,h1];exact cd (ag _ hm),?_⟩;rcases h2 with⟨he,h0⟩|⟨g,cap,cur,he,hb,hh,hnc,hcm,hcs,ht⟩
 .injection he with ha _ hc;subst ha;subst hc;exact .inl ⟨by rw[show m=0 by omega],by omega⟩
 .injection he with ha _ hc;subst ha;subst hc;refine .inr ⟨g,c,cur,rfl,hb,hh,by omega,hcm,hcs,?_⟩;rw[<-ht,gh,cd (ag _ hm)]
section
variable {P:cA}
variable {i:fY}
theorem NJ(t e:ao)(kh:cE)(ht:P.underlying t=some (.slice e))(hi:P.info? e=some i)(A:Option cy)(n c:Nat)(j:Int)(h0:0<=j)(hm:j<=n)(hc:n<=c):
 ∀W:ae,(dd t (.slice A n c) none (some (.int kh j)) none).run P W=.ok (.slice A j.toNat c) W:=by
 intro W;have hel:P.elem t=e:=by simp[dg,ht]
 have hu:P.underlying t=some (.slice (P.elem t)):=by rw[hel];exact ht
 have ha:(A.map fun x=>x.add 0)=A:=by cases A<;>simp[dT]
 rw[run_slice_h W t A n c hu kh j h0 (by omega),hel];simp[sizeOf,typeInfo,hi,sliced,cJ,ha]
theorem NK(t e:ao)(kl:cE)(ht:P.underlying t=some (.slice e))(hi:P.info? e=some i)(size:Nat)(hsz:i.size=size)(A:Option cy)(n c:Nat)(j:Int)(h0:0<=j)(hm:j<=n):
 ∀W:ae,(dd t (.slice A n c) (some (.int kl j)) none none).run P W=.ok (.slice (if c=j.toNat then A else A.map (·.add (j.toNat*size))) (n-j.toNat) (c-j.toNat)) W:=by
 intro W;have hel:P.elem t=e:=by simp[dg,ht]
 have hu:P.underlying t=some (.slice (P.elem t)):=by rw[hel];exact ht
 rw[run_slice_l W t A n c hu kl j h0 hm,hel];simp[sizeOf,typeInfo,hi,hsz,sliced,cJ]
end
section
variable {w w1:ae} {base n size:Nat} {e:ao} {v:aa} {xs:List aa}
theorem oG{g:Nat}:∀(vs:List aa) (o:Nat) {w:ae} (k:Nat),k≠g->(w.setCells g o vs).heap[k]? =w.heap[k]?
 | [],_,_,_,_=>rfl
 |v::r,o,w,k,hk=>by
  rw[gi,oG r (o+1) k hk];exact ax w ⟨g,o,none⟩ v k hk
theorem nP(g:Nat):∀(vs:List aa) (o:Nat) (w:ae),(w.setCells g o vs).os=w.os∧(w.setCells g o vs).tape=w.tape∧(w.setCells g o vs).output=w.output∧(w.setCells g o vs).heap.size=w.heap.size
 | [],_,_=>⟨rfl,rfl,rfl,rfl⟩
 |v::r,o,w=>by
  obtain⟨h1,h2,h3,h4⟩:=nP g r (o+1) (w.setCell ⟨g,o,none⟩ v);rw[gi];exact⟨h1,h2,h3,by rw[h4];simp[gj]⟩
theorem oH{g:Nat}{e:ao}:∀(vs:List aa) (o:Nat) (w:ae) (cur:Array aa),w.heap[g]? =some (.cells cur e (0,0))->o+vs.length<=cur.size->
 ∃cur',(w.setCells g o vs).heap[g]? =some (.cells cur' e (0,0))∧cur'.size=cur.size∧cur'.toList=cur.toList.take o++vs++cur.toList.drop (o+vs.length)
 | [],o,w,cur,h,_=>⟨cur,h,rfl,by simp⟩
 |v::r,o,w,cur,h,hl=>by
  have h2:=I_ h o v;simp only[eI]at hl;obtain⟨cur',h3,h4,h5⟩:=oH r (o+1) (w.setCell ⟨g,o,none⟩ v) _ h2 (by simp;omega);refine⟨cur',h3,by rw[h4];simp,?_⟩;rw[h5,Array.toList_setIfInBounds];have ho:o<cur.toList.length:=by rw[cN];omega
  rw[List.take_set,List.drop_set_of_lt (by omega)];simp only[eI];rw[show o+1+r.length=o+(r.length+1) by omega]
  congr 1
  rw[dj ho,List.set_append_right _ _ (by rw[an];omega)];have ho':o<cur.size:=by omega
  simp[cd (Nat.le_of_lt ho')]
end
namespace Kd
variable {m:Nat}{α:Type}
theorem KH{R:α->List aa->Prop}{size:Nat}{ps:List α}{cs:List aa}(h:gZ R size ps cs)(hm:m<=ps.length):gZ R size (ps.take m) (cs.take (m*size)):=by
 refine⟨by rw[an,an,h.1,cd hm,cd (ag _ hm)],fun j p hj=>?_⟩;rw[aq]at hj
 split at hj
 .rename_i hjm
  have:=h.2 j p hj;have hle:j*size+size<=m*size:=by rw[<-cm];exact ag _ hjm
  rw[List.drop_take,gh,cd (by omega)];exact this
 .cases hj
theorem XQ{d:Kd α}{e n c:Nat}{w:ae}{base:Nat}{ok:Nat->Prop}{A:Option cy}{xs:List α}(h:d.R e w base ok (.slice A n c) xs)(hm:m<=xs.length):d.R e w base ok (.slice A m c) (xs.take m):=by
 obtain⟨h0,inner,ho,hr⟩:=h;have hn:n=xs.length:=by
  obtain⟨A',c',he⟩:=aW ho;injection he
 subst hn;have hb:∀x y:Nat,(fL A x c).ownBlock=(fL A y c).ownBlock:=by
  intro x y;cases A<;>rfl
 refine⟨fun k hk=>h0 k (by rw[hb _ m];exact hk),inner.take (m*d.sz),?_,?_⟩
 .rw[an,cd hm];exact NI ho hm
 .rw[hb m xs.length];exact KH hr hm
end Kd
namespace Kd
section
variable {α:Type} {d:Kd α} {e e':Nat} {w w1 W:ae} {base:Nat} {ok:Nat->Prop} {u v:aa} {xs:List α}
theorem jR(h:d.R e w base ok v xs):∀k,v.ownBlock=some k->∃cells,w.heap[k]? =some (.cells cells e (0,0)):=by
 obtain⟨inner,ho⟩:=zZ h;exact fun k hk=>gG ho k hk
theorem SA(h:d.R e W base ok u xs)(hty:∀k,v.ownBlock=some k->∃cells,W.heap[k]? =some (.cells cells e' (0,0)))(ht:∀q,q∈e::d.E->q≠e')(hg:W.grownBy w1 v.ownBlock):d.R e w1 base ok u xs:=by
 refine iA (xI (lT h) (fun k hk=>hg.block k hk.2.2.1 (fun he=>?_))) (fun _ hk=>hk.1);obtain⟨_,_,_,q,hq,cells,hc⟩:=hk;obtain⟨cells',hc'⟩:=hty k he.symm;rw[hc]at hc';injection hc' with hc';injection hc' with _ hc';exact ht q hq hc'
theorem DN(h:d.R e W base ok u xs)(hty:∀k,v.ownBlock=some k->∃cells,W.heap[k]? =some (.cells cells e' (0,0)))(ht:∀q,q∈e::d.E->q≠e'):d.R e W base (fun k=>ok k∧some k≠v.ownBlock) u xs:=by
 refine iA (lT h) (fun k hk=>⟨hk.1,fun he=>?_⟩);obtain⟨_,_,_,q,hq,cells,hc⟩:=hk;obtain⟨cells',hc'⟩:=hty k he.symm;rw[hc]at hc';injection hc' with hc';injection hc' with _ hc';exact ht q hq hc'
theorem DR(hu:d.R e W base ok u xs)(hbase:∀k,v.ownBlock=some k->W.heap.size<=k)(hb:ba W.heap.size W w1):d.R e w1 base (fun k=>ok k∧some k≠v.ownBlock) u xs:=
 iA (xI (lT hu) (fun k hk=>hb.block k hk.2.2.1)) (fun k hk=>⟨hk.1,fun he=>by have:=hbase k he.symm;have:=hk.2.2.1;omega⟩)
theorem XR(h:d.R e w1 W.heap.size ok v xs)(hlt:∀k,u.ownBlock=some k->k<W.heap.size):d.R e w1 W.heap.size (fun k=>ok k∧some k≠u.ownBlock) v xs:=
 iA (lT h) (fun k hk=>⟨hk.1,fun he=>by have:=hlt k he.symm;have:=hk.2.1;omega⟩)
end
end Kd
theorem tu{α:Type}(a seg:List α)(o:Nat)(h:o+seg.length<=a.length)(q:Nat):
 (a.take o++seg++a.drop (o+seg.length))[q]? =if q<o then a[q]? else if q<o+seg.length then seg[q-o]? else a[q]? :=by
 have hl:(a.take o).length=o:=by rw[an];omega
 rw[List.append_assoc];by_cases h1:q<o
 .rw[if_pos h1,ca (by omega),aq,if_pos h1]
 .rw[if_neg h1,cq (by omega),hl];by_cases h2:q<o+seg.length
  .rw[if_pos h2,ca (by omega)]
  .rw[if_neg h2,cq (by omega),ar]
   congr 1
   omega
namespace Kd
section
variable {α:Type} {d:Kd α} {e base g n cap:Nat} {ok lX:Nat->Prop} {W:ae} {xs:List α}
theorem NM(h:d.R e W base ok (.slice (some ⟨g,0,none⟩) n cap) xs)(z:α)(i:Int)(h0:0<=i)(h1:i<n):
 ∃c,c.length=d.sz∧d.M W base (fun k=>ok k∧k≠g) (xs.getD i.toNat z) c∧(∀j u,c[j]? =some u->W.cell? ⟨g,i.toNat*d.sz+j,none⟩=some u)∧∀j,W.frozen? ⟨g,i.toNat*d.sz+j,none⟩=false:=by
 obtain⟨hn,hnc,hC⟩:=gV h;obtain⟨_,inner,ho,hr⟩:=h;have hil:i.toNat<xs.length:=by omega
 have hseg:i.toNat*d.sz+d.sz<=inner.length:=by rw[hr.1,<-cm];exact ag _ hil
 have hM:=hr.2 i.toNat _ (ab hil);refine⟨(inner.drop (i.toNat*d.sz)).take d.sz,by rw[an,az];omega,?_,fun j u hu=>?_,fun j=>?_⟩
 .rw[al,ab hil];exact d.fA (fun k hk=>⟨hk.1,fun he=>hk.2 (by rw[he];simp[ai])⟩) hM
 .rw[aq]at hu
  split at hu
  .rw[ar]at hu;have:=ho.cells (g:=g) (by simp[ai]) _ u hu;rwa [add_plain]at this
  .cases hu
 .obtain⟨cells,hc⟩:=gG ho g (by simp[ai]);exact aj hc _
theorem aaS(h:d.R e W base ok (.slice (some ⟨g,0,none⟩) n cap) xs)(i:Int)(h0:0<=i)(h1:i<n){c seg:List aa}{j:Nat}(hcl:c.length=d.sz)(hcc:∀j u,c[j]? =some u->W.cell? ⟨g,i.toNat*d.sz+j,none⟩=some u)(hj:j+seg.length<=d.sz){x':α}(hM:d.M W base lX x' (c.take j++seg++c.drop (j+seg.length)))(uQ:∀k,lX k->ok k∧k≠g):
 d.R e (W.setCells g (i.toNat*d.sz+j) seg) base ok (.slice (some ⟨g,0,none⟩) n cap) (xs.set i.toNat x')∧W.grownBy (W.setCells g (i.toNat*d.sz+j) seg) (some g):=by
 obtain⟨hn,hnc,_⟩:=gV h;obtain⟨hok,inner,ho,hr⟩:=h;have hil:i.toNat<xs.length:=by omega
 have hseg:i.toNat*d.sz+d.sz<=inner.length:=by rw[hr.1,<-cm];exact ag _ hil
 have hin:inner.length=n*d.sz:=by rw[hr.1,hn]
 obtain⟨ho1,ho2⟩:=ho;rcases ho2 with⟨hv,_⟩|⟨g',cap',cur,hv,hb,hh,hnc',hcm,hcs,ht⟩
 .cases hv
 injection hv with ha _ hc;injection ha with ha;injection ha with hg;subst hg;subst hc;have hfit:i.toNat*d.sz+j+seg.length<=cur.size:=by
  have:n*d.sz<=cap*d.sz:=ag _ hnc;omega
 obtain⟨cur',h3,h4,h5⟩:=oH seg (i.toNat*d.sz+j) W cur hh hfit;obtain⟨s1,s2,s3,s4⟩:=nP g seg (i.toNat*d.sz+j) W;have BU:∀k,k≠g->(W.setCells g (i.toNat*d.sz+j) seg).heap[k]? =W.heap[k]? :=fun k hk=>oG seg _ k hk
 have hcin:∀q,q<d.sz->c[q]? =inner[i.toNat*d.sz+q]? :=by
  intro q hq;have hq':q<c.length:=by omega
  have h6:=hcc q _ (ab hq');rw[cell_of_row W g _ cur e (0,0) hh]at h6;rw[ab hq',<-h6,<-ht,aq,if_pos (by rw[<-hn];omega),Array.getElem?_toList]
 refine⟨⟨hok,inner.take (i.toNat*d.sz+j)++seg++inner.drop (i.toNat*d.sz+j+seg.length),⟨?_,.inr ⟨g,cap,cur',by rw[cz,hn],hb,h3,by rw[cz,<-hn];exact hnc,hcm,by rw[h4,hcs],?_⟩⟩,?_⟩,
  ⟨s1,s2,s3,by rw[s4];exact de _,fun k _ hk=>BU k (fun he=>hk (by rw[he]))⟩⟩
 .rw[cz];simp only[aw,an,az];rw[hr.1]at hseg⊢;omega
 .rw[cz,<-hn];apply dp;intro q;rw[aq,h5];rw[tu cur.toList seg (i.toNat*d.sz+j) (by rw[cN];omega) q,tu inner seg (i.toNat*d.sz+j) (by omega) q];have hcur:∀q,q<n*d.sz->cur.toList[q]? =inner[q]? :=by
   intro q hq;rw[<-ht,aq,if_pos (by rw[<-hn];exact hq)]
  by_cases hq:q<n*d.sz
  .rw[if_pos hq,hcur q hq]
  .rw[if_neg hq,if_neg (by omega),if_neg (by omega),cx (by omega)]
 .refine⟨?_,fun m p hm=>?_⟩
  .rw[cz];simp only[aw,an,az];rw[hr.1]at hseg⊢;omega
  .have hml:m<xs.length:=by
    have:=(a_.1 hm).1;rwa [cz]at this
   have agB:m*d.sz+d.sz<=inner.length:=by rw[hr.1,<-cm];exact ag _ hml
   have hgo:some g=(fL (some ⟨g,0,none⟩) n cap).ownBlock:=by simp[ai]
   by_cases hmi:m=i.toNat
   .subst hmi;rw[List.getElem?_set_self (by omega)]at hm;injection hm with hm;subst hm;have hcells:((inner.take (i.toNat*d.sz+j)++seg++inner.drop (i.toNat*d.sz+j+seg.length)).drop (i.toNat*d.sz)).take d.sz=c.take j++seg++c.drop (j+seg.length):=by
     apply dp;intro q;rw[aq,ar,tu inner seg _ (by omega),tu c seg j (by omega) q];by_cases hq:q<d.sz
     .rw[if_pos hq,hcin q hq];by_cases hq1:q<j
      .rw[if_pos (by omega),if_pos hq1]
      .rw[if_neg (by omega),if_neg hq1];by_cases hq2:q<j+seg.length
       .rw[if_pos (by omega),if_pos hq2]
        congr 1
        omega
       .rw[if_neg (by omega),if_neg hq2]
     .rw[if_neg hq,if_neg (by omega),if_neg (by omega),cx (by omega)]
    rw[hcells];refine d.fA (fun k hk=>?_) (d.je (w1:=W.setCells g (i.toNat*d.sz+j) seg) (fun k hk=>BU k (uQ k hk).2) hM);exact⟨(uQ k hk).1,fun he=>(uQ k hk).2 (by rw[<-hgo]at he;injection he)⟩
   .rw[List.getElem?_set_ne (by omega)]at hm;have hold:=hr.2 m p hm;have hcells:((inner.take (i.toNat*d.sz+j)++seg++inner.drop (i.toNat*d.sz+j+seg.length)).drop (m*d.sz)).take d.sz=(inner.drop (m*d.sz)).take d.sz:=by
     apply dp;intro q;rw[aq,aq,ar,ar,tu inner seg _ (by omega)];by_cases hq:q<d.sz
     .rw[if_pos hq,if_pos hq];rcases Nat.lt_or_gt_of_ne hmi with hlt|hgt
      .have:m*d.sz+d.sz<=i.toNat*d.sz:=by rw[<-cm];exact ag _ hlt
       rw[if_pos (by omega)]
      .have:i.toNat*d.sz+d.sz<=m*d.sz:=by rw[<-cm];exact ag _ hgt
       rw[if_neg (by omega),if_neg (by omega)]
     .rw[if_neg hq,if_neg hq]
    rw[hcells];refine d.je (fun k hk=>BU k (fun he=>hk.2 (by rw[he];exact hgo))) hold
end
end Kd
namespace Kd
theorem pX{α:Type}{R:α->List aa->Prop}{size:Nat}{ps qs:List α}{cs ds:List aa}(h:gZ R size ps cs)(h':gZ R size qs ds):gZ R size (ps++qs) (cs++ds):=by
 refine⟨by rw[aw,aw,h.1,h'.1,fz],fun j p hj=>?_⟩;rcases di j ps.length with hlt|hge
 .rw[ca hlt]at hj;have hle:j*size+size<=cs.length:=by rw[h.1,<-cm];exact ag _ hlt
  rw[dv (by omega),dy (by rw[az];omega)];exact h.2 j p hj
 .rw[cq hge]at hj;have h2:=h'.2 (j-ps.length) p hj;have hle:ps.length*size<=j*size:=ag _ hge;rw[List.drop_append,List.drop_eq_nil_of_le (by rw[h.1];exact hle),List.nil_append,h.1,<-Nat.sub_mul];exact h2
section
variable {P:cA} {ops:Array cC} {rest:List cC} {o:cC} {a:eS} {Q:gg->eS->ae->Prop} {α:Type}
theorem iR(d:Kd α){Rr:α->List aa->Prop}{w0 W:ae}(base:Nat)(hgd:o.guard=none)(s x:fc)(t e:ao)(z:aa)(bytes:Nat)(ho:o.op=.call {callee:=.builtin .append,args:= #[s,x],argTypes:= #[t,t]})(ht:P.underlying t=some (.slice e))(hinfo:(P.info? e).map (fun i=>(i.zero,i.size,i.bytes))=some (some z,d.sz,bytes))(hz:z.cells.size=d.sz)(hs0:0<d.sz)(hb0:0<bytes)(v:aa)(xs ys:List α)(A:Option cy)(m c:Nat)(ok lX:Nat->Prop)(hs:a.eval s=v)(hx:a.eval x=.slice A m c)(HO:d.R e W base ok v xs)(HR:f_ Rr d.sz W A m ys)(hKM:∀x cs,Rr x cs->d.M W base lX x cs)(uQ:∀k,lX k->ok k∧some k≠v.ownBlock)(hfresh:∀k,W.heap.size<=k->ok k)(HB:ba base w0 W)(hbase:base<=W.heap.size)(hl:(xs.length+m)*bytes<=140737488355328)(h:∀v1 w1,d.R e w1 base ok v1 (xs++ys)->ba base w0 w1->W.grownBy w1 v.ownBlock->(v1.ownBlock=v.ownBlock∨∃b,v1.ownBlock=some b∧W.heap.size<=b)->wpList P ops Q rest (a.put o.dst v1) w1):
 wpList P ops Q (o::rest) a W:=by
 obtain⟨i0,hi,hzz⟩:=cG.1 hinfo;simp only[cW]at hzz;obtain⟨hz0,hz1,hz2⟩:=hzz;have hm:=HR.1;have hlen:xs.length+m<=140737488355328:=bb (bk _ hb0) hl;obtain⟨hok,inner,hown,hr⟩:=HO;have hrun:∃v1 w1,(cH #[t,t] o.type #[v,.slice A m c]).run P W=.ok v1 w1∧d.R e w1 base ok v1 (xs++ys)∧W.grownBy w1 v.ownBlock∧(v1.ownBlock=v.ownBlock∨∃b,v1.ownBlock=some b∧W.heap.size<=b):=by
  rcases A with _|ad
  .have h0:m=0:=by
    rcases cF m with h0|h0
    .exact h0
    .obtain⟨ad,h,_⟩:=HR.2.2 h0;cases h
   subst h0;obtain rfl:ys=[]:=cD hm;refine⟨v,W,?_,by rw[fS];exact⟨hok,inner,hown,hr⟩,World.grownBy.refl W _,.inl rfl⟩;rcases hown.2 with⟨rfl,hn⟩|⟨g,cap,cur,rfl,_,_,hnc,_⟩
   .simp[cH,run_underlying ht,sizeOf,typeInfo,hi,ew,c_]
   .simp[cH,run_underlying ht,sizeOf,typeInfo,hi,ew,c_,hnc,storeCells]
  .obtain⟨news,hnr,hnc⟩:=f_.Nz HR;have Nf:=hnr.nN (fun p c hp=>hKM p c hp);have hone:∀u∈news,u.oneCell'=true:=by
    intro u hu;obtain⟨q,hq,rfl⟩:=fb.1 hu;have SB:q/d.sz<ys.length:=by
     rw[eQ hs0];rw[<-Nf.1];exact hq
    have hc:=Nf.2 (q/d.sz) _ (ab SB);refine d.nZ (d.jy hc) _ ?_;rw[eR];refine⟨q%d.sz,?_⟩;rw[aq,if_pos (ik _ hs0),ar,df,fW,ab hq]
   obtain⟨v1,w1,hrun,h2,hg,_,hat⟩:=run_append_own_at (P:=P) W base t o.type e i0 z d.sz bytes ht hi hz0 hz1 hz2 hz hs0 v xs.length inner hown ad m c news (by rw[Nf.1,hm]) hnc hone (by simp only[maxLen];omega) hl hbase;have hat':v1.ownBlock=v.ownBlock∨∃b,v1.ownBlock=some b∧W.heap.size<=b:=by
    rcases hat with hat|hat
    .exact .inl hat
    .exact .inr ⟨_,hat,de _⟩
   have hne:∀k,some k≠v.ownBlock->k<W.heap.size->some k≠v1.ownBlock:=by
    intro k hk hlt;rcases hat' with hat|⟨b,hb,hle⟩
    .rw[hat];exact hk
    .rw[hb];intro he;injection he with he;omega
   have step:∀{q:α} {c:List aa} {o:Nat->Prop},d.M W base o q c->(∀k,o k->ok k∧some k≠v.ownBlock)->d.M w1 base (fun k=>ok k∧some k≠v1.ownBlock) q c:=by
    intro q c o hq ho;have h1:=d.je (w1:=w1) (fun k hk=>hg.block k hk.2.2.1 (ho k hk.1).2) (d.gQ hq);exact d.fA (fun k hk=>⟨(ho k hk.1).1,hne k (ho k hk.1).2 hk.2.2.1⟩) h1
   refine⟨v1,w1,hrun,⟨fun k hk=>?_,inner++news,by rw[aw,hm];exact h2,pX (hr.nN (fun _ _ hq=>step hq (fun _ hk=>hk))) (Nf.nN (fun _ _ hq=>step hq uQ))⟩,hg,hat'⟩;rcases hat' with hat|⟨b,hb,hle⟩
   .exact hok k (hat▸hk)
   .rw[hb]at hk;injection hk with hk;exact hfresh k (by omega)
 obtain⟨v1,w1,hr1,h1,hg,hat⟩:=hrun;refine wpList_plain hgd fun K hK=>?_
 unfold eK execOp;simp only[ho,resolve,invoke,builtin,Sem.run_bind,Sem.run_pure,fp,fv,fh,gm,hs,hx,hr1];exact hK _ _ (h v1 w1 h1 (HB.grown hg hbase (iM hown)) hg hat)
end
end Kd
theorem add_add(a:cy)(i j:Nat):(a.add i).add j=a.add (i+j):=by
 unfold dT;by_cases h1:i=0<;>by_cases h2:j=0<;>simp[h1,h2,et]
namespace Kd
section
variable {α:Type} {k:Kd α} {w:ae} {A:Option cy} {xs:List α} {m c:Nat}
theorem NP(h:k.C w A xs.length xs)(hm:m<=xs.length):k.C w A (xs.take m).length (xs.take m):=by
 have hl:(xs.take m).length=m:=by rw[an];omega
 refine⟨rfl,by rw[hl];have:=h.2.1;omega,fun hp=>?_⟩;obtain⟨ad,e,hc⟩:=h.2.2 (by omega);refine⟨ad,e,fun j p hj=>hc j p ?_⟩;rw[aq]at hj
 split at hj
 .exact hj
 .cases hj
theorem xL(h:k.C w A xs.length xs)(hm:m<=xs.length)(hc:xs.length<=c):k.C w (if c=m then A else A.map (·.add (m*k.sz))) (xs.drop m).length (xs.drop m):=by
 have hl:(xs.drop m).length=xs.length-m:=az;refine⟨rfl,by rw[hl];have:=h.2.1;omega,fun hp=>?_⟩;rw[hl]at hp;obtain⟨ad,rfl,hcell⟩:=h.2.2 (by omega);rw[if_neg (by omega)];refine⟨ad.add (m*k.sz),rfl,fun j p hj=>?_⟩;rw[ar]at hj;obtain⟨cs,h1,h2,h3⟩:=hcell (m+j) p hj;refine⟨cs,h1,h2,fun i u hu=>?_⟩;rw[add_add,show m*k.sz+(j*k.sz+i)=(m+j)*k.sz+i by rw[fz];omega];exact h3 i u hu
theorem aaT{lo hi:Nat}(h:k.C w A xs.length xs)(h1:lo<=hi)(h2:hi<=xs.length)(hc:xs.length<=c):k.C w (if c=lo then A else A.map (·.add (lo*k.sz))) ((xs.take hi).drop lo).length ((xs.take hi).drop lo):=by
 have hl:(xs.take hi).length=hi:=by rw[an];omega
 exact xL (NP h h2) (by omega) (by omega)
end
end Kd
variable {A:Option cy}{P:cA}{W w:ae}{base c g n:Nat}{dst src:ao}
theorem wF{e:ao}{xs:List Int}(hs:P.underlying src=some (.slice e))(he:P.underlying e=some (.int .u8))(hd:P.underlying dst=some .string)(h:jc w .u8 A n xs):(convert src dst (.slice A n c)).run P w=.ok (.string (strOfNums xs)) w:=by
 have hn:=h.1;rcases A with _|ad
 .have h0:n=0:=by
   rcases cF n with h0|h0
   .exact h0
   .obtain⟨ad,h',_⟩:=h.2.2 h0;cases h'
  subst h0;obtain rfl:xs=[]:=cD hn;exact run_convert_bytes_nil w src e hs he 0 c dst hd
 .have hl:(loadCells ad n).run P w=.ok (xs.map (fe .u8)).toArray w:=by
   have:=run_loadCells_list (P:=P) w ad (xs.map (fe .u8)) (fun j v hj=>by
    have hjl:j<xs.length:=by
     rcases di j xs.length with h'|h'
     .exact h'
     .rw[cx (by rw[fX];exact h')]at hj;cases hj
    obtain⟨ad',he',hc⟩:=h.2.2 (by omega);injection he' with he';subst he';rw[hc j (by omega)];rw[List.getElem?_map,ab hjl]at hj;simp at hj;subst hj;simp[al,ab hjl])
   simpa[hn]using this
  rw[run_convert_bytes_string w src dst e _ n c hs he hd,run_bytesToString w ad n c xs hl,foldl_push_bytes];simp[strOfNums,ByteArray.empty,ByteArray.emptyWithCapacity];rfl
theorem Kd.DT{e:ao}{xs:List Int}(hs:P.underlying src=some (.slice e))(he:P.underlying e=some (.int .u8))(hd:P.underlying dst=some .string)(h:(Kd.int .u8).C w A n xs):(convert src dst (.slice A n c)).run P w=.ok (.string (strOfNums xs)) w:=
 wF hs he hd (Kd.fB (enc:=fe .u8) (d:=(0:Int)) (h1:=fun _=>rfl) h)
theorem aC(h:ba w.heap.size w W):w.heap.size<=W.heap.size:=h.size
theorem aU{w2:ae}(h:ba w.heap.size w W)(k:ba W.heap.size W w2):ba w.heap.size w w2:=Gg h h.size k
variable {v:aa}{xs:List aa}
theorem NR{b:Nat}{e:ao}{size:Nat}(h:W.ownsRow b e size v n xs)(hle:base<=b):W.ownsRow base e size v n xs:=by
 obtain⟨h1,h2⟩:=h;exact⟨h1,h2.imp id fun ⟨g,cap,cur,he,hb,hr⟩=>⟨g,cap,cur,he,bb hle hb,hr⟩⟩
theorem jv{j:Nat}(h:ba w.heap.size w W)(hg:w.heap.size<=g):ba w.heap.size w (W.setCell ⟨g,j,none⟩ v):=h.setCell hg _
theorem KI(h:qF w W g none){a:cy}(hc:w.cell? a=some v)(hne:a.block≠g):W.cell? a=some v:=by
 have:=h.2 a.block (da w a hc) hne (by simp);simpa[ia,this]using hc
theorem add_block(a:cy)(i:Nat):(a.add i).block=a.block:=by unfold dT;split<;>rfl
theorem own_base'{e:ao}{size:Nat}(h:w.ownsRow base e size v n xs):v.ownBlock=none∨∃b,v.ownBlock=some b∧base<=b:=by
 cases hv:v.ownBlock with
 |none=>exact .inl rfl
 |some b=>exact .inr ⟨b,rfl,iM h b hv⟩
theorem gD{α:Type}{enc:α->aa}{d:α}{e:ao}{xs:List α}(h:W.ownsRow base e 1 (.slice A n c) n (encs enc xs)):eZ enc d W A n xs:=by
 obtain⟨A',c',he,hr⟩:=BQ (d:=d) h;injection he with hA;rw[hA];exact hr
theorem iW{t:ao}{cs cs':Array aa}(h:w.heap[g]? =some (.cells cs t (0,0)))(i:Nat)(u:aa)(e:cs.setIfInBounds i u=cs'):(w.setCell ⟨g,i,none⟩ u).heap[g]? =some (.cells cs' t (0,0)):=e▸I_ h i u
theorem wR{e:ao}{size:Nat}(h:W.ownsRow base e size (.slice A n c) n xs):n<=c:=by
 rcases h.2 with⟨h1,h2⟩|⟨g,cap,cur,h1,_,_,h2,_⟩
 .injection h1 with _ h3 h4;omega
 .injection h1 with _ _ h4;omega
theorem jJ(h:ba base w W):ba base w W.drew:=h.drew
namespace Kd
section
variable {α β:Type} {d:Kd α} {d':Kd β} {e e' base base' n:Nat} {ok ok':Nat->Prop} {w W w1 W1:ae} {v u:aa} {xs:List α} {ys:List β} {A:Option cy} {c:Nat}
theorem BZ(h:d.R e w base ok v xs):v.ownBlock=none∨∃k,v.ownBlock=some k∧base<=k:=by
 obtain⟨inner,ho⟩:=zZ h;exact own_base' ho
end
end Kd
section
variable {P:cA} {ops:Array cC} {rest:List cC} {o:cC} {a:eS} {Q:gg->eS->ae->Prop}
theorem bU{W:ae}(hgd:o.guard=none){N:Tmp}(_hd:o.dst=some N){cs:Array aa}{t:ao}(hrun:(execOp a.eval o).run P W=.ok (.value (.pointer (some ⟨W.heap.size,0,none⟩))) (W.alloc (.cells cs t (0,0))))(h:∀g,g=W.heap.size->∀w1,w1.heap[g]? =some (.cells cs t (0,0))->ba W.heap.size W w1->wpList P ops Q rest (a.put o.dst (.pointer (some ⟨g,0,none⟩))) w1):wpList P ops Q (o::rest) a W:=
 Kd.Aa hgd hrun (h _ rfl _ (Sy W _) (dY (ef _ _) _))
end
namespace Kd
section
variable {α:Type} {enc:α->aa} {h1:∀x,(enc x).oneCell'=true} {e base g n cap:Nat} {ok:Nat->Prop} {W:ae} {xs:List α}
theorem Jd(d:α)(h:(scalar enc h1).R e W base ok (.slice (some ⟨g,0,none⟩) n cap) xs)(i:Int)(h0:0<=i)(hi:i<n):W.cell? ⟨g,i.toNat,none⟩=some (enc (rE d xs i))∧W.frozen? ⟨g,i.toNat,none⟩=false:=by
 obtain⟨rfl,_⟩:=gV h;exact XP d h i h0 hi
end
end Kd
section
variable {P:cA} {ops:Array cC} {rest:List cC} {o:cC} {a:eS} {Q:gg->eS->ae->Prop}
theorem vK{W w1:ae}(hgd:o.guard=none){t:ao}{p:Tmp}{v:fc}(_ho:o.op=.store t (.tmp p) v)(hN:o.dst=none)(hrun:(execOp a.eval o).run P W=.ok .skip w1)(h:∀w',w'=w1->wpList P ops Q rest a w'):wpList P ops Q (o::rest) a W:=by
 refine wpList_plain hgd fun K hK=>?_
 unfold eK;rw[hrun];show K (a.put o.dst undef) w1;rw[hN];exact hK _ _ (h _ rfl)
end
namespace Kd
section
variable {α:Type} {enc:α->aa} {h1:∀x,(enc x).oneCell'=true} {e base g n cap:Nat} {ok:Nat->Prop} {W:ae} {xs:List α}
theorem XT(h:(scalar enc h1).R e W base ok (.slice (some ⟨g,0,none⟩) n cap) xs)(i:Int)(x:α):(scalar enc h1).R e (W.setCell ⟨g,i.toNat,none⟩ (enc x)) base ok (.slice (some ⟨g,0,none⟩) n cap) (xs.set i.toNat x)∧W.grownBy (W.setCell ⟨g,i.toNat,none⟩ (enc x)) (some g):=by
 obtain⟨rfl,_⟩:=gV h;exact aaR h i x
end
end Kd
section
variable {P:cA} {ops:Array cC} {rest:List cC} {o:cC} {a:eS} {Q:gg->eS->ae->Prop} {W:ae}
theorem bP{N:Tmp}(_hN:o.dst=some N)(h:wpList P ops Q (o::rest) a W):wpList P ops Q (o::rest) a W:=h
theorem xM{t:ao}{p:Tmp}{v:fc}(_ho:o.op=.store t (.tmp p) v)(h:wpList P ops Q (o::rest) a W):wpList P ops Q (o::rest) a W:=h
end
section
variable {P:cA} {ops:Array cC} {o:cC} {a:eS} {Q:gg->eS->ae->Prop} {Kc:eS->ae->Prop}
theorem Gm{W w1:ae}{v:aa}(hw:Region.wanted o (yielded ops a.tmps)=true)(hrun:(execOp a.eval o).run P W=.ok (.value v) w1)(h:Kc (a.put o.dst v) w1):if Region.wanted o (yielded ops a.tmps)=true then eK P o a W Kc Q else Kc (a.put o.dst undef) W:=by
 rw[if_pos hw];unfold eK;rw[hrun];exact h
namespace Kd
variable {α:Type}
variable {W w0:ae}
theorem l7(d:Kd α)(base e:Nat)(hw:Region.wanted o (yielded ops a.tmps)=true){N:Tmp}(_hd:o.dst=some N){xs:List α}{inner:List aa}{ok lX:Nat->Prop}(hrun:(execOp a.eval o).run P W=.ok (.value (.slice (some ⟨W.heap.size,0,none⟩) xs.length xs.length)) (W.alloc (.cells inner.toArray e)))(hrep:gZ (d.M W base lX) d.sz xs inner)(hok:∀k,lX k->ok k)(hfresh:ok W.heap.size)(HB:ba base w0 W)(hbase:base<=W.heap.size)(hm:xs.length<=9223372036854775807)(h:∀v1 w1,d.R e w1 base ok v1 xs->ba base w0 w1->W.grownBy w1 none->(∃b,v1.ownBlock=some b∧W.heap.size<=b)->Kc (a.put o.dst v1) w1):if Region.wanted o (yielded ops a.tmps)=true then eK P o a W Kc Q else Kc (a.put o.dst undef) W:=by
 refine Gm hw hrun (h _ _ ⟨fun k hk=>?_,inner,?_,?_⟩ (HB.alloc hbase _) (dE W _ none) ⟨W.heap.size,by simp[ai],de _⟩)
 .have:W.heap.size=k:=by simpa[ai]using hk
  subst this;exact hfresh
 .have h2:=fm (base:=base) (e:=e) (size:=d.sz) W inner.toArray xs.length hbase (by simpa[maxLen]using hm) (by simpa using hrep.1);simpa using h2
 .refine hrep.nN (fun p c hp=>d.fA (fun k hk=>⟨hok k hk.1,fun he=>?_⟩) (Ja (d.gQ hp) (dY (ef _ _) _)));have h3:k=W.heap.size:=by simpa[ai]using he
  have:=hk.2.2.1;omega
theorem iF(d:Kd α){Rr:α->List aa->Prop}(base:Nat)(hw:Region.wanted o (yielded ops a.tmps)=true)(s x:fc)(t e:ao)(z:aa)(bytes:Nat)(ho:o.op=.call {callee:=.builtin .append,args:= #[s,x],argTypes:= #[t,t]})(ht:P.underlying t=some (.slice e))(hinfo:(P.info? e).map (fun i=>(i.zero,i.size,i.bytes))=some (some z,d.sz,bytes))(hz:z.cells.size=d.sz)(hs0:0<d.sz)(hb0:0<bytes)(v:aa)(xs ys:List α)(A:Option cy)(m c:Nat)(ok lX:Nat->Prop)(hs:a.eval s=v)(hx:a.eval x=.slice A m c)(HO:d.R e W base ok v xs)(HR:f_ Rr d.sz W A m ys)(hKM:∀x cs,Rr x cs->d.M W base lX x cs)(uQ:∀k,lX k->ok k∧some k≠v.ownBlock)(hfresh:∀k,W.heap.size<=k->ok k)(HB:ba base w0 W)(hbase:base<=W.heap.size)(hl:(xs.length+m)*bytes<=140737488355328)(h:∀v1 w1,d.R e w1 base ok v1 (xs++ys)->ba base w0 w1->W.grownBy w1 v.ownBlock->(v1.ownBlock=v.ownBlock∨∃b,v1.ownBlock=some b∧W.heap.size<=b)->Kc (a.put o.dst v1) w1):
 if Region.wanted o (yielded ops a.tmps)=true then eK P o a W Kc Q else Kc (a.put o.dst undef) W:=by
 obtain⟨i0,hi,hzz⟩:=cG.1 hinfo;simp only[cW]at hzz;obtain⟨hz0,hz1,hz2⟩:=hzz;have hm:ys.length=m:=HR.1;have hlen:xs.length+m<=140737488355328:=bb (bk _ hb0) hl;obtain⟨hok,inner,hown,hr⟩:=HO;have hrun:∃v1 w1,(cH #[t,t] o.type #[v,.slice A m c]).run P W=.ok v1 w1∧d.R e w1 base ok v1 (xs++ys)∧W.grownBy w1 v.ownBlock∧(v1.ownBlock=v.ownBlock∨∃b,v1.ownBlock=some b∧W.heap.size<=b):=by
  rcases A with _|ad
  .have h0:m=0:=by
    rcases cF m with h0|h0
    .exact h0
    .obtain⟨ad,h,_⟩:=HR.2.2 h0;cases h
   subst h0;obtain rfl:ys=[]:=cD hm;refine⟨v,W,?_,by rw[fS];exact⟨hok,inner,hown,hr⟩,World.grownBy.refl W _,.inl rfl⟩;rcases hown.2 with⟨rfl,hn⟩|⟨g,cap,cur,rfl,_,_,hnc,_⟩
   .simp[cH,run_underlying ht,sizeOf,typeInfo,hi,ew,c_]
   .simp[cH,run_underlying ht,sizeOf,typeInfo,hi,ew,c_,hnc,storeCells]
  .obtain⟨news,hnr,hnc⟩:=f_.Nz HR;have Nf:gZ (d.M W base lX) d.sz ys news:=hnr.nN (fun p c hp=>hKM p c hp);have hone:∀u∈news,u.oneCell'=true:=by
    intro u hu;obtain⟨q,hq,rfl⟩:=fb.1 hu;have SB:q/d.sz<ys.length:=by
     rw[eQ hs0];rw[<-Nf.1];exact hq
    have hc:=Nf.2 (q/d.sz) _ (ab SB);refine d.nZ (d.jy hc) _ ?_;rw[eR];refine⟨q%d.sz,?_⟩;rw[aq,if_pos (ik _ hs0),ar,df,fW,ab hq]
   obtain⟨v1,w1,hrun,h2,hg,_,hat⟩:=run_append_own_at (P:=P) W base t o.type e i0 z d.sz bytes ht hi hz0 hz1 hz2 hz hs0 v xs.length inner hown ad m c news (by rw[Nf.1,hm]) hnc hone (by simp only[maxLen];omega) hl hbase;have hat':v1.ownBlock=v.ownBlock∨∃b,v1.ownBlock=some b∧W.heap.size<=b:=by
    rcases hat with hat|hat
    .exact .inl hat
    .exact .inr ⟨_,hat,de _⟩
   have hne:∀k,some k≠v.ownBlock->k<W.heap.size->some k≠v1.ownBlock:=by
    intro k hk hlt;rcases hat' with hat|⟨b,hb,hle⟩
    .rw[hat];exact hk
    .rw[hb];intro he;injection he with he;omega
   have step:∀{q:α} {c:List aa} {o:Nat->Prop},d.M W base o q c->(∀k,o k->ok k∧some k≠v.ownBlock)->d.M w1 base (fun k=>ok k∧some k≠v1.ownBlock) q c:=by
    intro q c o hq ho;have h1:=d.je (w1:=w1) (fun k hk=>hg.block k hk.2.2.1 (ho k hk.1).2) (d.gQ hq);exact d.fA (fun k hk=>⟨(ho k hk.1).1,hne k (ho k hk.1).2 hk.2.2.1⟩) h1
   refine⟨v1,w1,hrun,⟨fun k hk=>?_,inner++news,by rw[aw,hm];exact h2,pX (hr.nN (fun _ _ hq=>step hq (fun _ hk=>hk))) (Nf.nN (fun _ _ hq=>step hq uQ))⟩,hg,hat'⟩;rcases hat' with hat|⟨b,hb,hle⟩
   .exact hok k (hat▸hk)
   .rw[hb]at hk;injection hk with hk;exact hfresh k (by omega)
 obtain⟨v1,w1,hr1,h1,hg,hat⟩:=hrun;rw[if_pos hw];unfold eK execOp;simp only[ho,resolve,invoke,builtin,Sem.run_bind,Sem.run_pure,fp,fv,fh,gm,hs,hx,hr1];exact h v1 w1 h1 (HB.grown hg hbase (iM hown)) hg hat
end Kd
end
end Go.Proofs.ah.aN
namespace Go.Proofs.YtlhhcnknclnlaaaGreatDoor.Top
open Go Go.WideShapes Go.RowKit Go.Proofs.ah.aN
def Keeps(S:Nat->Prop)(w w':ae):Prop:=
 w'.os=w.os∧w'.tape=w.tape∧w'.output=w.output∧w.heap.size<=w'.heap.size∧∀k,k<w.heap.size->¬S k->w'.heap[k]? =w.heap[k]?
def Stp(S S':Nat->Prop)(w w':ae):Prop:=Keeps S w w'∧∀k,S' k->S k∨w.heap.size<=k
section
variable {S S' S'':Nat->Prop} {w w' w'':ae}
theorem Keeps.refl(S:Nat->Prop)(w:ae):Keeps S w w:=⟨rfl,rfl,rfl,de _,fun _ _ _=>rfl⟩
theorem Keeps.size(h:Keeps S w w'):w.heap.size<=w'.heap.size:=h.2.2.2.1
theorem Keeps.at_(h:Keeps S w w'){k:Nat}(hk:k<w.heap.size)(hs:¬S k):w'.heap[k]? =w.heap[k]? :=h.2.2.2.2 k hk hs
theorem Keeps.mono(h:Keeps S w w')(hS:∀k,k<w.heap.size->S k->S' k):Keeps S' w w':=
 ⟨h.1,h.2.1,h.2.2.1,h.2.2.2.1,fun k hk hs=>h.2.2.2.2 k hk fun hk'=>hs (hS k hk hk')⟩
theorem Keeps.trans(h:Keeps S w w')(k:Keeps S' w' w'')(hS:∀i,S' i->S i∨w.heap.size<=i):Keeps S w w'':=
 ⟨k.1.trans h.1,k.2.1.trans h.2.1,k.2.2.1.trans h.2.2.1,bb h.size k.size,fun i hi hs=>
  (k.at_ (bj hi h.size) fun hs'=>(hS i hs').elim hs (by omega)).trans (h.at_ hi hs)⟩
theorem Keeps.drewN(h:Keeps S w w')(n:Nat):Keeps S w (w'.drewN n):=h
theorem Keeps.drew(h:Keeps S w w'):Keeps S w w'.drew:=h
theorem Keeps.alloc(h:Keeps S w w')(o:Obj):Keeps S w (w'.alloc o):=
 ⟨h.1,h.2.1,h.2.2.1,by have:=h.size;simp;omega,fun k hk hs=>(dt _ _ _ (bj hk h.size)).trans (h.at_ hk hs)⟩
theorem Keeps.setCell(h:Keeps S w w'){a:cy}(ha:S a.block∨w.heap.size<=a.block)(v:aa):Keeps S w (w'.setCell a v):=
 ⟨h.1,h.2.1,h.2.2.1,by simpa using h.size,fun k hk hs=>(ax _ _ _ _ (fun e=>by subst e;exact ha.elim hs fun h=>by omega)).trans (h.at_ hk hs)⟩
theorem Keeps.turned(h:Keeps S w w'){m:Nat}(hm:S m∨w.heap.size<=m)(ht:w'.mapTurned w'' m):Keeps S w w'':=by
 have hg:=ht.grown;exact⟨hg.os.trans h.1,hg.tape.trans h.2.1,hg.output.trans h.2.2.1,bb h.size hg.size,fun k hk hs=>
  (hg.block k (bj hk h.size) (fun e=>by cases e;exact hm.elim hs fun h=>by omega)).trans (h.at_ hk hs)⟩
theorem Keeps.grown(h:Keeps S w w'){r:Option Nat}(hg:w'.grownBy w'' r)(hm:∀m,r=some m->S m∨w.heap.size<=m):Keeps S w w'':=
 ⟨hg.os.trans h.1,hg.tape.trans h.2.1,hg.output.trans h.2.2.1,bb h.size hg.size,fun k hk hs=>
  (hg.block k (bj hk h.size) (fun e=>(hm k e.symm).elim hs fun h=>by omega)).trans (h.at_ hk hs)⟩
theorem Keeps.of_below(h:ba w.heap.size w w'):Keeps S w w':=⟨h.os,h.tape,h.output,h.size,fun k hk _=>h.block k hk⟩
theorem Keeps.below(h:Keeps S w w')(hb:ba w'.heap.size w' w''):Keeps S w w'':=h.trans (Keeps.of_below (S:=S) hb) fun _ h=>.inl h
theorem Keeps.eG(h:Keeps S w w')(hS:∀k,k<w.heap.size->¬S k):ba w.heap.size w w':=⟨h.1,h.2.1,h.2.2.1,h.size,fun k hk=>h.at_ hk (hS k hk)⟩
variable {v:aa}
theorem Keeps.cell(h:Keeps S w w'){a:cy}(hc:w.cell? a=some v)(hs:¬S a.block):w'.cell? a=some v:=
 (World.cell?_of_block (w:=w) (h.at_ (da w a hc) hs)).trans hc
theorem Keeps.own(h:Keeps S w w'){base e size n:Nat}{xs:List aa}(ho:w.ownsRow base e size v n xs)(hs:∀k,v.ownBlock=some k->¬S k):w'.ownsRow base e size v n xs:=
 fq ho fun k hk=>h.at_ (bJ ho k hk) (hs k hk)
theorem Stp.refl(S:Nat->Prop)(w:ae):Stp S S w w:=⟨Keeps.refl _ _,fun _ h=>.inl h⟩
theorem Stp.trans(h:Stp S S' w w')(k:Stp S' S'' w' w''):Stp S S'' w w'':=
 ⟨h.1.trans k.1 h.2,fun i hi=>(k.2 i hi).elim (h.2 i) fun hk=>.inr (bb h.1.size hk)⟩
end
def St(w:ae)(b:Nat)(t:ao)(vs:List aa):Prop:=w.heap[b]? =some (.cells vs.toArray t (0,0))
section
variable {S:Nat->Prop} {w w':ae} {b b' t t' i:Nat} {vs vs':List aa} {v u:aa}
theorem St.lt(h:St w b t vs):b<w.heap.size:=(aE.1 h).1
theorem St.cell(h:St w b t vs)(i:Nat)(hv:vs[i]? =some v):w.cell? ⟨b,i,none⟩=some v:=by
 unfold St at h;simp[ia,h,hv]
theorem St.frozen(h:St w b t vs)(i:Nat):w.frozen? ⟨b,i,none⟩=false:=by
 unfold St at h;simp[fg,h]
theorem St.set(h:St w b t vs)(i:Nat)(v:aa):St (w.setCell ⟨b,i,none⟩ v) b t (vs.set i v):=by
 unfold St at h⊢;rw[heap_setCell_same w b i _ t v h];simp
theorem St.other(h:St w b t vs){a:cy}(ha:b≠a.block)(v:aa):St (w.setCell a v) b t vs:=(ax _ _ _ _ ha).trans h
theorem St.alloc(h:St w b t vs)(o:Obj):St (w.alloc o) b t vs:=(dt _ _ _ h.lt).trans h
theorem St.new(w:ae)(t:ao)(vs:Array aa):St (w.alloc (.cells vs t (0,0))) w.heap.size t vs.toList:=by
 unfold St;rw[heap_alloc_new]
theorem St.keep(h:St w b t vs)(hk:Keeps S w w')(hs:¬S b):St w' b t vs:=(hk.at_ h.lt hs).trans h
theorem St.ne(h:St w b t vs)(h':St w b' t' vs')(hn:t≠t'):b≠b':=fun e=>by
 subst e;unfold St at h h';rw[h]at h';injection h' with h';injection h' with _ h';exact hn h'
theorem St.own_ne(h:St w b t vs){base e size n:Nat}{x:aa}{xs:List aa}(ho:w.ownsRow base e size x n xs)(hn:e≠t):∀k,x.ownBlock=some k->k≠b:=fun k hk e=>by
 subst e;obtain⟨cs,hc⟩:=gG ho k hk;unfold St at h;rw[h]at hc;injection hc with hc;injection hc with _ hc;exact hn hc.symm
end
def RV(v:aa):Option (DataW aa×List MemPlace):=some (.held v,[])
def eU(w:ae)(k:ao)(m q:Nat)(f:Lit->Option aa):Prop:=
 ∃D:DataW aa,w.ownsMap af k RV m q D∧Maps.IsMap D∧∀kl z,D.atKey kl z=match f kl with|some v=>.held v|none=>z
open Classical in
noncomputable def upd {α β:Type} (f:α->β) (x:α) (y:β):α->β:=fun a=>if a=x then y else f a
section
variable {α β:Type} {f:α->β} {x x':α} {y y':β}
theorem upd_same(f:α->β)(x:α)(y:β):upd f x y x=y:=if_pos rfl
theorem aM(f:α->β)(y:β)(h:x'≠x):upd f x y x'=f x':=if_neg h
theorem qH(f:α->β)(x:α)(y y':β):upd (upd f x y) x y'=upd f x y':=by
 funext a;unfold upd;split<;>rfl
theorem uR(h:f x=y):upd f x y=f:=by
 funext a;unfold upd;split
 .subst_vars;rfl
 .rfl
end
section
open Go.Maps (Keyed)
variable {S:Nat->Prop} {w w':ae} {k e t m q:Nat} {f:Lit->Option aa} {key v z:aa} {kl:Lit}
theorem eU.lt(h:eU w k m q f):m<w.heap.size:=h.choose_spec.1.lt
theorem eU.move(h:eU w k m q f)(he:w'.heap[m]? =w.heap[m]?):eU w' k m q f:=by
 obtain⟨D,⟨es,c,h1,h2⟩,h3⟩:=h;exact⟨D,⟨es,c,he.trans h1,h2⟩,h3⟩
theorem eU.keep(h:eU w k m q f)(hk:Keeps S w w')(hs:¬S m):eU w' k m q f:=h.move (hk.at_ h.lt hs)
theorem eU.made(w:ae)(k:ao):eU (w.alloc (.map #[] 0)) k w.heap.size 0 (fun _=>none):=
 ⟨_,World.ownsMap_made _ _ _ _,Maps.isMap_empty,fun _ _=>rfl⟩
theorem eU.ne(h:eU w k m q f){b:Nat}{vs:List aa}(hs:St w b t vs):m≠b:=fun e=>by
 obtain⟨D,⟨es,c,h1,h2⟩,h3⟩:=h;subst e;unfold St at hs;rw[hs]at h1;cases h1
theorem eU.own_ne(h:eU w k m q f){base e size n:Nat}{x:aa}{xs:List aa}(ho:w.ownsRow base e size x n xs):∀k,x.ownBlock=some k->k≠m:=fun k hk e=>by
 subst e;obtain⟨cs,hc⟩:=gG ho k hk;obtain⟨D,⟨es,c,h1,h2⟩,h3⟩:=h;rw[hc]at h1;cases h1
theorem eU.look(h:eU w k m q f)(K:Keyed af k)(ht:af.underlying t=some (.map k e))(hz:(zeroValue e).run af w=.ok z w)(hk:keyOf af k key=some kl):
 (gx t (.map (some m)) key false).run af w=.ok ((f kl).getD z) w:=by
 obtain⟨D,h1,h2,h3⟩:=h;obtain⟨v,ps,hr,hv⟩:=h1.lookup K ht hz (zd:=.held z) (zp:=[]) rfl hk;rw[hr];rw[h3]at hv;simp only[RV,eo,cW]at hv;cases hf:f kl with
 |none=>rw[hf]at hv;injection hv.1 with hv;rw[hv];rfl
 |some u=>rw[hf]at hv;injection hv.1 with hv;rw[hv];rfl
theorem B_{D:DataW aa}(hD:∀kl z,D.atKey kl z=match f kl with|some v=>.held v|none=>z)(kl:Lit):Maps.has D kl=(f kl).isSome:=by
 cases hf:f kl with
 |none=>exact Maps.has_false_of_atKey fun z=>by rw[hD,hf]
 |some u=>exact Maps.has_true_of_atKey (y:=.held u) fun z=>by rw[hD,hf]
theorem eU.look_ok(h:eU w k m q f)(K:Keyed af k)(ht:af.underlying t=some (.map k e))(hz:(zeroValue e).run af w=.ok z w)(hk:keyOf af k key=some kl):
 (gx t (.map (some m)) key true).run af w=.ok (.tuple #[(f kl).getD z,.bool (f kl).isSome]) w:=by
 obtain⟨D,h1,h2,h3⟩:=h;obtain⟨v,ps,hr,hv⟩:=h1.look_ok K ht hz (zd:=.held z) (zp:=[]) rfl hk;rw[hr,B_ h3];rw[h3]at hv;simp only[RV,eo,cW]at hv;cases hf:f kl with
 |none=>rw[hf]at hv;injection hv.1 with hv;rw[hv];rfl
 |some u=>rw[hf]at hv;injection hv.1 with hv;rw[hv];rfl
theorem eU.store(h:eU w k m q f)(K:Keyed af k)(ht:af.underlying t=some (.map k e))(hq:q<maxLen)(hk:keyOf af k key=some kl)(hl:WideAt.IsKeyLit kl)(v:aa):
 ∃w',(Instr.mapUpdate t (.map (some m)) key v).run af w=.ok () w'∧eU w' k m (q+1) (upd f kl (some v))∧w.mapTurned w' m:=by
 obtain⟨D,h1,h2,h3⟩:=h;obtain⟨w',hr,h4,h5⟩:=h1.store K ht hq hk (val:=v) (d:=.held v) (ps:=[]) rfl;refine⟨w',hr,⟨_,h4,h2.put _ _,fun x z=>?_⟩,h5⟩;by_cases hx:x=kl
 .subst hx;rw[Maps.atKey_put_same h2 hl,upd_same]
 .rw[Maps.atKey_put_other hx,aM _ _ hx,h3]
theorem eU.drop(h:eU w k m q f)(K:Keyed af k)(ht:af.underlying t=some (.map k e))(hk:keyOf af k key=some kl)(ty:ao):
 ∃w',(Builtin.delete_ #[t,k] ty #[.map (some m),key]).run af w=.ok (.tuple #[]) w'∧eU w' k m q (upd f kl none)∧w.mapTurned w' m:=by
 obtain⟨D,h1,h2,h3⟩:=h;obtain⟨w',hr,h4,h5⟩:=h1.drop K ht hk ty;refine⟨w',hr,⟨_,h4,h2.del _,fun x z=>?_⟩,h5⟩;by_cases hx:x=kl
 .subst hx;rw[Maps.atKey_del_same,upd_same]
 .rw[Maps.atKey_del_other hx,aM _ _ hx,h3]
end
open Classical in
theorem tC {α:Type}:∀(l L:List α),l.Pairwise (· ≠ ·)->(∀x∈l,x∈L)->l.length<=L.length
 | [],_,_,_=>Nat.zero_le _
 |x::l,L,hn,hs=>by
  have hx:=hs x (by simp);have:=tC l (L.erase x) (fl.1 hn).2 fun y hy=>(dC (fun e=>(fl.1 hn).1 y hy e.symm)).2 (hs y (by simp[hy]))
  rw[ey hx]at this;have:=eM hx;simp;omega
variable {b c m q room:Nat}{w:ae}
theorem eU.tight{k:Nat}{f:Lit->Option aa}(h:eU w k m q f)(K:Maps.Keyed af k)(hself:∀l,Maps.KeysOf af k l->l.sameKey l=true)(L:List Lit)(hL:∀x,f x≠none->x∈L):eU w k m L.length f:=by
 obtain⟨D,h1,h2,h3⟩:=h;refine⟨D,?_,h2,h3⟩;obtain⟨es,clock,hb,F,hs,hD⟩:=h1;refine⟨es,clock,hb,F,?_,hD⟩;have hd:=Maps.fit_apart K F;have hk:=Maps.fit_keys F;have hl:(es.toList.map (WideElems.rg af k RV)).length=es.size:=by simp
 rw[<-hl,<-fX (f:=Prod.fst)];refine tC _ _ (List.pairwise_map.2 hd) fun x hx=>hL x ?_
 obtain⟨p,hp,rfl⟩:=gz.1 hx;have:=B_ h3 p.1;intro hf;rw[hf]at this;rw[hD,Maps.has_eq]at this;have h4:((es.toList.map (WideElems.rg af k RV)).foldr DataW.insert []).any (fun y=>y.1.sameKey p.1)=true:=
  fw.2 ⟨p,(sorted_perm _).mem_iff.2 hp,hself _ (hk p hp)⟩
 rw[h4]at this;cases this
def sec(n:Nat):Nat:=(n+15)/16
def ptr(g:Nat):aa:=.pointer (some ⟨g,0,none⟩)
abbrev Nm:Type:=List UInt8
def nm(s:ByteArray):Nm:=s.data.toList
def rT(L:List Nm)(g:Nm->Nat):Lit->Option aa
 | .string x=>if x∈L then some (ptr (g x))else none
 |_=>none
theorem wS(L:List Nm)(g:Nm->Nat)(s:Nm):rT L g (.string s)=if s∈L then some (ptr (g s))else none:=rfl
variable {L:List Nm}{g:Nm->Nat}
theorem mQ{s:Nm}(h:s∈L):rT L g (.string s)=some (ptr (g s)):=if_pos h
theorem n_{s:Nm}(h:s∉L):rT L g (.string s)=none:=if_neg h
theorem DU(hn:L.Nodup)(g:Nm->Nat)(s:Nm):upd (rT L g) (.string s) none=rT (L.erase s) g:=by
 funext kl
 by_cases e:kl=.string s
 .subst e;rw[upd_same,n_ (fun h=>(hn.mem_erase_iff.1 h).1 rfl)]
 .rw[aM _ _ e];cases kl with
  |string t=>
   have e':t≠s:=fun h=>e (by rw[h])
   rw[wS,wS];by_cases ht:t∈L
   .rw[if_pos ht,if_pos ((dC e').2 ht)]
   .rw[if_neg ht,if_neg fun h=>ht (dr h)]
  |_=>rfl
theorem NS(L:List Nm)(s:Nm)(g:Nm->Nat)(k:Nat):upd (rT L g) (.string s) (some (ptr k))=rT (s::L) (upd g s k):=by
 funext kl
 by_cases e:kl=.string s
 .subst e;rw[upd_same,mQ (by simp),upd_same]
 .rw[aM _ _ e];cases kl with
  |string t=>
   have e':t≠s:=fun h=>e (by rw[h])
   rw[wS,wS,aM _ _ e'];by_cases ht:t∈L
   .rw[if_pos ht,if_pos (by simp[ht])]
   .rw[if_neg ht,if_neg (by simp[ht,e'])]
  |_=>rfl
theorem DV(s:ByteArray)(h:s.size<=maxLen):keyOf af 9 (.string s)=some (.string (nm s)):=WideMaps.keyOf_string_mk du h
theorem l8:Maps.Keyed af 9:=Maps.string_keyed du
theorem aaU(l:Lit)(h:Maps.KeysOf af 9 l):l.sameKey l=true:=by
 obtain⟨v,hv⟩:=h;obtain⟨s,rfl⟩:=Maps.keyOf_string_inv du hv;have:l=.string s.data.toList:=by
  unfold keyOf mapKey at hv;simp[du]at hv;exact hv.2.symm
 subst this;simp[Lit.sameKey]
theorem Ca(w:ae):(zeroValue 91).run af w=.ok (.pointer none) w:=by kernel_rfl
variable {a:cy}{n u x:Int}
theorem SC(hc:w.cell? a=some (.int .i64 x))(hz:w.frozen? a=false):
 (callFunc 102 #[.pointer (some a),.int .i64 1]).run af w=.ok (.value (.int .i64 (wrap64 (x+1)))) (w.setCell a (.int .i64 (wrap64 (x+1)))):=
 run_call_add (P:=af) func102 (by kernel_rfl) (by kernel_rfl) (by kernel_rfl) .i64 (by kernel_rfl) hc hz (by simp[go_sem,wrap64,IntKind.wrap_i64])
theorem NU(hc:w.cell? a=some (.int .u32 x)):
 (callFunc 120 #[.pointer (some a)]).run af w=.ok (.value (.int .u32 x)) w:=
 run_call_load (P:=af) func120 (by kernel_rfl) (by kernel_rfl) (by kernel_rfl) .u32 (by kernel_rfl) hc
def Ng(m:Nat)(room u n:Int)(kv:aa):List aa:=[.map (some m),.int .i64 room,.int .i64 u,.int .i64 n,.int .i64 0,kv,.int .u32 0]
def uS(w:ae)(b:Nat)(n:Int):ae:=w.setCell ⟨b,3,none⟩ (.int .i64 (wrap64 (n+1)))
variable {kv:aa}
theorem rU{room:Int}(h:St w b 84 (Ng m room u n kv)):St (uS w b n) b 84 (Ng m room u (wrap64 (n+1)) kv):=h.set 3 _
theorem xO{room:Int}(h:St w b 84 (Ng m room u n kv)):
 fi af 66 #[.pointer (some ⟨b,0,none⟩)] w fun e w'=>e=.returned (.int .i64 0)∧w'=uS w b n:=by
 have c4:=h.cell 4 rfl;have c6:=h.cell 6 rfl;have hA:=SC (h.cell 3 rfl) (h.frozen 3);have hL:=NU (w:=w.setCell ⟨b,3,none⟩ (.int .i64 (wrap64 (n+1)))) ((h.set 3 _).cell 6 rfl);clear h;go_enter func66,ntmps66
 go_wp2
 go_ret;exact⟨rfl,rfl⟩
theorem Ac{g:Nat}{room:Int}{f:Lit->Option aa}{s:ByteArray}(h:St w b 84 (Ng m room u n kv))(hm:eU w 9 m q f)(hs:s.size<=maxLen)(hf:f (.string (nm s))=some (ptr g)):
 fi af 70 #[.pointer (some ⟨b,0,none⟩),.string s] w fun e w'=>e=.returned (.tuple #[.pointer (some ⟨g,0,none⟩),.int .i64 0])∧w'=uS w b n:=by
 have h1:=rU h;have c0:=h1.cell 0 rfl;have hm1:eU (uS w b n) 9 m q f:=hm.move (ax _ _ _ _ (hm.ne h));have hl:=hm1.look l8 cI (Ca _) (DV s hs);rw[hf]at hl;simp only[ptr,fy]at hl;clear h1 hm hm1 hf;go_enter ib,gA
 go_wp2_with (go_at_call 66;refine(xO h).mono ?_;rintro e w' ⟨rfl,rfl⟩)
 exact bodyPost_ret (results_tmp2 rfl _ _ _) rfl ⟨rfl,rfl⟩
theorem Gn{room:Int}{f:Lit->Option aa}{s:ByteArray}(h:St w b 84 (Ng m room u n kv))(hm:eU w 9 m q f)(hs:s.size<=maxLen)(hf:f (.string (nm s))=none):
 fi af 70 #[.pointer (some ⟨b,0,none⟩),.string s] w fun e w'=>e=.returned (.tuple #[.pointer none,.int .i64 4])∧w'=uS w b n:=by
 have h1:=rU h;have c0:=h1.cell 0 rfl;have hm1:eU (uS w b n) 9 m q f:=hm.move (ax _ _ _ _ (hm.ne h));have hl:=hm1.look l8 cI (Ca _) (DV s hs);rw[hf]at hl;simp only[Option.getD_none]at hl;clear h1 hm hm1 hf;go_enter ib,gA
 go_wp2_with (go_at_call 66;refine(xO h).mono ?_;rintro e w' ⟨rfl,rfl⟩)
 exact bodyPost_ret (results_tmp2 rfl _ _ _) rfl ⟨rfl,rfl⟩
def bZ(L:List Nm)(F:Nm->List Int):Nat:=(L.map fun x=>sec (F x).length).sum
structure Raw (w:ae) (D:Nat->Prop) (b m:Nat) (room:Nat) (L:List Nm) (g:Nm->Nat) (v s:Nm->aa) (F:Nm->List Int):Prop where
 st:∃n kv,St w b 84 (Ng m room (bZ L F:Nat) n kv)
 le:bZ L F<=room
 rm:room<=1000000∧m<b
 db:D b
 dm:D m
 map:eU w 9 m L.length (rT L g)
 mR:L.Nodup
 file:∀x,x∈L->St w (g x) 95 [v x,s x]∧w.ownsRow 0 5 1 (v x) (F x).length (nums .u8 (F x))∧D (g x)∧∀k,(v x).ownBlock=some k->D k
 inj:∀x y,x∈L->y∈L->x≠y->g x≠g y∧∀k,(v x).ownBlock=some k->(v y).ownBlock≠some k
 lt:∀k,D k->k<w.heap.size
abbrev Files:Type:=Nm->Option (List Int)
def aV(w:ae)(D:Nat->Prop)(b:Nat)(room:Nat)(F:Files)(c:Nat):Prop:=
 ∃m L g v s G,Raw w D b m room L g v s G∧c=bZ L G+L.length∧∀x,F x=if x∈L then some (G x)else none
theorem Raw.keep{w w':ae}{S D:Nat->Prop}{b m:Nat}{room:Nat}{L:List Nm}{g:Nm->Nat}{v s:Nm->aa}{F:Nm->List Int}(h:Raw w D b m room L g v s F)(hk:Keeps S w w')(hS:∀k,D k->¬S k):Raw w' D b m room L g v s F:=by
 obtain⟨⟨n,kv,hst⟩,hle,hrm,hb,hm,hmap,hn,hf,hi,hl⟩:=h;exact⟨⟨n,kv,hst.keep hk (hS _ hb)⟩,hle,hrm,hb,hm,hmap.keep hk (hS _ hm),hn,fun x hx=>
  have⟨a1,a2,a3,a4⟩:=hf x hx
  ⟨a1.keep hk (hS _ a3),hk.own a2 fun k hk'=>hS k (a4 k hk'),a3,a4⟩,hi,fun k hk'=>bj (hl k hk') hk.size⟩
theorem aV.keep{w w':ae}{S D:Nat->Prop}{b c:Nat}{room:Nat}{F:Files}(h:aV w D b room F c)(hk:Keeps S w w')(hS:∀k,D k->¬S k):aV w' D b room F c:=by
 obtain⟨m,L,g,v,s,G,h1,h2⟩:=h;exact⟨m,L,g,v,s,G,h1.keep hk hS,h2⟩
theorem Raw.drewN{w:ae}{D:Nat->Prop}{b m room:Nat}{L:List Nm}{g:Nm->Nat}{v s:Nm->aa}{F:Nm->List Int}(h:Raw w D b m room L g v s F)(n:Nat):Raw (w.drewN n) D b m room L g v s F:=
 h.keep (S:=fun _=>False) ((Keeps.refl _ w).drewN n) fun _ _=>id
variable {D:Nat->Prop}{v:Nm->aa}
theorem Raw.op{s:Nm->aa}{F:Nm->List Int}(h:Raw w D b m room L g v s F)(hst:St w b 84 (Ng m room (bZ L F:Nat) n kv)):Raw (uS w b n) D b m room L g v s F:=by
 have ne:∀k,k≠b->(uS w b n).heap[k]? =w.heap[k]? :=fun k hk=>ax _ _ _ _ hk
 refine⟨⟨_,kv,rU hst⟩,h.le,h.rm,h.db,h.dm,h.map.move (ne _ (h.map.ne hst)),h.mR,fun x hx=>?_,h.inj,fun k hk=>by simpa[uS]using h.lt k hk⟩;obtain⟨a1,a2,a3,a4⟩:=h.file x hx;exact⟨(ne _ (a1.ne hst (by decide))).trans a1,fq a2 fun k hk=>ne k (hst.own_ne a2 (by decide) k hk),a3,a4⟩
theorem Raw.keeps{s:Nm->aa}{F:Nm->List Int}(h:Raw w D b m room L g v s F)(n:Int):Stp D D w (uS w b n):=
 ⟨(Keeps.refl D w).setCell (.inl h.db) _,fun _ h=>.inl h⟩
variable {F:Files}{G:Nm->List Int}
theorem aV.in_(h:∀x,F x=if x∈L then some (G x)else none){x:Nm}{l:List Int}(hx:F x=some l):x∈L∧G x=l:=by
 rw[h]at hx
 split at hx
 .exact⟨‹_›,bz hx⟩
 .cases hx
theorem aV.NV(h:∀x,F x=if x∈L then some (G x)else none){x:Nm}(hx:F x=none):x∉L:=by
 intro hl;rw[h,if_pos hl]at hx;cases hx
theorem Je(h:aV w D b room F c)(s:ByteArray)(hs:s.size<=maxLen){l:List Int}(hx:F (nm s)=some l):
 fi af 72 #[.pointer (some ⟨b,0,none⟩),.string s] w fun e w'=>e=.returned (.tuple #[.int .i64 l.length,.int .i64 0])∧aV w' D b room F c∧Stp D D w w':=by
 obtain⟨m,L,g,v,sy,G,R,hc,hF⟩:=h;obtain⟨nQ,rfl⟩:=aV.in_ hF hx;obtain⟨n,kv,hst⟩:=R.st;have R1:=R.op hst;obtain⟨a1,a2,a3,a4⟩:=R1.file _ nQ;obtain⟨A,cp,hv⟩:=aW a2;have c0:=a1.cell 0 rfl;rw[hv]at c0;have HH:=Y4 R1 hc hF (R.keeps n);clear R1 hc hF hx a1 a2 a3 a4 hv;go_enter ic,gC
 go_wp2_with (go_at_call 70;refine(Ac hst R.map hs (mQ nQ)).mono ?_;rintro e w' ⟨rfl,rfl⟩)
 obtain⟨R1,hc,hF,hk⟩:=HH.out;exact bodyPost_ret (results_tmp2 rfl _ _ _) rfl ⟨rfl,⟨_,_,_,_,_,_,R1,hc,hF⟩,hk⟩
theorem DW(h:aV w D b room F c)(s:ByteArray)(hs:s.size<=maxLen)(hx:F (nm s)=none):
 fi af 72 #[.pointer (some ⟨b,0,none⟩),.string s] w fun e w'=>e=.returned (.tuple #[.int .i64 0,.int .i64 4])∧aV w' D b room F c∧Stp D D w w':=by
 obtain⟨m,L,g,v,sy,G,R,hc,hF⟩:=h;have nQ:=aV.NV hF hx;obtain⟨n,kv,hst⟩:=R.st;have HH:=Y4 (R.op hst) hc hF (R.keeps n);clear hc hF hx;go_enter ic,gC
 go_wp2_with (go_at_call 70;refine(Gn hst R.map hs (n_ nQ)).mono ?_;rintro e w' ⟨rfl,rfl⟩)
 obtain⟨R1,hc,hF,hk⟩:=HH.out;exact bodyPost_ret (results_tmp2 rfl _ _ _) rfl ⟨rfl,⟨_,_,_,_,_,_,R1,hc,hF⟩,hk⟩
theorem Gp(h:aV w D b room F c)(s:ByteArray)(hs:s.size<=maxLen)(hx:F (nm s)=none):
 fi af 59 #[.pointer (some ⟨b,0,none⟩),.string s] w fun e w'=>e=.returned (.int .i64 4)∧aV w' D b room F c∧Stp D D w w':=by
 obtain⟨m,L,g,v,sy,G,R,hc,hF⟩:=h;have nQ:=aV.NV hF hx;obtain⟨n,kv,hst⟩:=R.st;have HH:=Y4 (R.op hst) hc hF (R.keeps n);clear hc hF hx;go_enter ie,gO
 go_wp2_with (go_at_call 70;refine(Gn hst R.map hs (n_ nQ)).mono ?_;rintro e w' ⟨rfl,rfl⟩)
 obtain⟨R1,hc,hF,hk⟩:=HH.out;go_ret;exact⟨rfl,⟨_,_,_,_,_,_,R1,hc,hF⟩,hk⟩
end Go.Proofs.YtlhhcnknclnlaaaGreatDoor.Top
namespace Go.Proofs.YtlhhcnknclnlaaaGreatDoor.Top
open Go
section
variable {P:cA} {ops:Array cC} {md:Region.Mode} {C:ae->Prop} {hs ts:List Nat}
def iN(md:Region.Mode)(ops:Array cC)(l:Array Bool):Prop:=∀j oj,ops[j]? =some oj->l.getD j false=true->∀e∈oj.after,Region.binds md e=true->l.getD e.on false=true
variable {i:Nat}
theorem iN.set{l:Array Bool}(h:iN md ops l)(hi:i∈Region.ready md ops l):iN md ops (l.setIfInBounds i true):=by
 obtain⟨_,oi,hoi,hall⟩:=cM.1 hi;intro j oj hj hl e he hb;by_cases hij:i=j
 .subst hij;obtain rfl:oj=oi:=bz (hj.symm.trans hoi);exact getD_set_true (hall e he hb)
 .rw[getD_set_ne false hij]at hl;exact getD_set_true (h j oj hj hl e he hb)
structure uT (md:Region.Mode) (ops:Array cC) (hs ts:List Nat) (l:Array Bool):Prop where
 size:l.size=ops.size
 shut:iN md ops l
 tail:∀t∈ts,l.getD t true=false
 cover:∀i,i<ops.size->l.getD i true=false->i∈hs∨i∈ts
def l9(md:Region.Mode)(ops:Array cC)(hs ts:List Nat):Bool:=ts.isEmpty||hs.all fun i=> !ts.contains i&&(hs++ts.take 1).any fun j=>decide (i<j)&&Region.waitsFor md ops j i
theorem tF{hs ts:List Nat}(h:l9 md ops hs ts=true)(hi:i∈hs):i∉ts∧(ts≠[]->∃j∈hs++ts.take 1,i<j∧Region.waitsFor md ops j i=true):=by
 unfold l9 at h;rcases Bool.or_eq_true_iff.1 h with h|h
 .have:ts=[]:=by simpa using h
  subst this;exact⟨by simp,fun h=>absurd rfl h⟩
 .have h1:=eJ.1 h i hi;simp only[bt,Bool.not_eq_true']at h1;obtain⟨j,hj,hj2⟩:=fw.1 h1.2;simp only[bt,decide_eq_true_eq]at hj2;exact⟨fun hm=>by simp[hm]at h1,fun _=>⟨j,hj,hj2⟩⟩
def jA(md:Region.Mode)(ops:Array cC):List Nat->Bool
 |t::t'::r=>Region.waitsFor md ops t' t&&jA md ops (t'::r)
 |_=>true
theorem vL:∀{ts:List Nat},jA md ops ts=true->∀t∈ts,ts.head? =some t∨∃t'∈ts,Region.waitsFor md ops t t'=true
 | [],_,t,ht=>by cases ht
 | [a],_,t,ht=>.inl (by simpa using(cY.1 ht).symm)
 |a::b::r,h,t,ht=>by
  simp only[jA,bt]at h;rcases cX.1 ht with rfl|ht
  .exact .inl rfl
  .rcases vL h.2 t ht with h1|⟨t',h1,h2⟩
   .obtain rfl:b=t:=by simpa using h1
    exact .inr ⟨a,by simp,h.1⟩
   .exact .inr ⟨t',by simp[cX.1 h1],h2⟩
theorem uT.set{i:Nat}{l:Array Bool}(inv:uT md ops hs ts l)(hi:i∈Region.ready md ops l)(hn:i∉ts):uT md ops hs ts (l.setIfInBounds i true):=by
 refine⟨by simp[inv.size],inv.shut.set hi,fun t ht=>?_,fun j hj hu=>?_⟩
 .rw[getD_set_ne true (show i≠t from fun e=>hn (by rw[e];exact ht))];exact inv.tail t ht
 .by_cases hij:i=j
  .subst hij;have:=inv.cover i hj (cM.1 hi).1;exact this
  .rw[getD_set_ne true hij]at hu;exact inv.cover j hj hu
theorem uT.waits{l:Array Bool}(inv:uT md ops hs ts l)(hsk:l9 md ops hs ts=true)(hc:jA md ops ts=true):
 ∀(d i:Nat),ops.size-i=d->i∈hs->l.getD i true=false->∀t∈ts,t∉Region.ready md ops l:=by
 intro d
 induction d using Nat.strongRecOn with
 |_ d ih=>
  intro i hd hi hun t ht hr;obtain⟨_,ot,hot,hall⟩:=cM.1 hr;have no:∀j,Region.waitsFor md ops t j=true->l.getD j true=false->False:=fun j hj hu=>by
   obtain⟨o',ho',e,he,hb,hon⟩:=Region.waitsFor_spec hj;obtain rfl:o'=ot:=bz (ho'.symm.trans hot);have h2:=hall e he hb;rw[hon,getD_both hu]at h2;cases h2
  rcases vL hc t ht with h0|⟨t',ht',hw⟩
  .obtain⟨j,hj,hj2⟩:=(tF hsk hi).2 (by intro e;rw[e]at ht;cases ht);rcases fR.1 hj with hj|hj
   .obtain⟨oj,hoj,e,he,hb,hon⟩:=Region.waitsFor_spec hj2.2;have hjl:=(aE.1 hoj).1;cases hl:l.getD j false with
    |true=>
     have h2:=inv.shut j oj hoj hl e he hb;rw[hon,getD_both hun]at h2;cases h2
    |false=>exact ih (ops.size-j) (by omega) j rfl hj (getD_in (by rw[inv.size];omega) hl) t ht hr
   .have:j=t:=by
     cases ts with
     |nil=>cases hj
     |cons a r=>
      simp only[List.head?_cons,eo]at h0;simpa[h0]using hj
    subst this;exact no i hj2.2 hun
  .exact no t' hw (inv.tail t' ht')
def DX(P:cA)(md:Region.Mode)(ops:Array cC)(C:ae->Prop)(hs:List Nat)(L:Array Bool->eS->Prop):Nat->Array Bool->eS->Prop
 |0,l,a=>L l a
 |f+1,l,a=>Region.ready md ops l≠[]∧∀i∈Region.ready md ops l,i∈hs∧qOp P ops C i (DX P md ops C hs L f (l.setIfInBounds i true)) a
theorem DY{g:Nat}{L:Array Bool->eS->Prop}{Q:gg->eS->ae->Prop}(hL:∀l a w,C w->L l a->wpAny P md ops Q g l a w):
 ∀(f:Nat) (l:Array Bool) (a:eS) (w:ae),C w->DX P md ops C hs L f l a->wpAny P md ops Q (f+g) l a w
 |0,l,a,w,hw,h=>by rw[gR];exact hL _ _ _ hw h
 |f+1,l,a,w,hw,h=>by
  rw[show f+1+g=(f+g)+1 by omega];exact⟨fun h0=>absurd h0 h.1,fun i hi=>wpOp_of_qOp hw (fun a' w' hw' h'=>DY hL f _ a' w' hw' h') (h.2 i hi).2⟩
theorem SE{oi:cC}{v:aa}{L:Array Bool->eS->Prop}(hi:ops[i]? =some oi)(hsel:∀(j:Nat) (o:cC) cs b,ops[j]? =some o->o.op≠.select cs b)(hs1:l9 md ops hs ts=true)(hc:jA md ops ts=true)(hin:i∈hs)(hdone:∀l a,L l a->∀j∈Region.ready md ops l,j∈ts):
 ∀(f:Nat) (l:Array Bool) (a:eS),uT md ops hs ts l->
  (∀j oj,ops[j]? =some oj->j≠i->l.getD j true=false->(∀e∈oj.after,Region.binds md e=true->e.on≠i)->oi.apart ops oj=true)->
  i∈Region.ready md ops l->YieldsIn P ops C oi v a->
  DX P md ops C hs L f (l.setIfInBounds i true) (a.put oi.dst v)->DX P md ops C hs L (f+1) l a:=by
 intro f
 induction f with
 |zero=>
  intro l a inv _ hr hy H;refine⟨fun h=>(by rw[h]at hr;cases hr),fun j hj=>?_⟩;have hw:=inv.waits hs1 hc _ i rfl hin (cM.1 hr).1;obtain⟨Wq,oj,hoj,_⟩:=cM.1 hj;refine⟨(inv.cover j (aE.1 hoj).1 Wq).resolve_right fun h=>hw j h hj,?_⟩;by_cases hji:j=i
  .subst hji;exact hy.qOp hi H
  .exact absurd hj (hw j (hdone _ _ H j (ready_mono hj hji)))
 |succ f ih=>
  intro l a inv hfree hr hy H;refine⟨fun h=>(by rw[h]at hr;cases hr),fun j hj=>?_⟩;have hw:=inv.waits hs1 hc _ i rfl hin (cM.1 hr).1;obtain⟨Wq,oj,hoj,hall⟩:=cM.1 hj;have hjt:j∉ts:=fun h=>hw j h hj
  refine⟨(inv.cover j (aE.1 hoj).1 Wq).resolve_right hjt,?_⟩;by_cases hji:j=i
  .subst hji;exact hy.qOp hi H
  .have h1:=(H.2 j (ready_mono hj hji)).2;have hnot:∀e∈oj.after,Region.binds md e=true->e.on≠i:=fun e he hb heq=>by
    have h3:=hall e he hb;rw[heq,getD_both (cM.1 hr).1]at h3;cases h3
   have h2:=qOp_put hoj (hfree j oj hoj hji Wq hnot) (fun cs b=>hsel i oi cs b hi) (fun cs b=>hsel j oj cs b hoj) hy h1;refine qOp_mono (fun a' h3=>ih (l.setIfInBounds j true) a' (inv.set hj hjt) (fun k ok hk hki hu hno=>hfree k ok hk hki ?_ hno) (ready_mono hr (eN hji)) h3.1 ?_) h2
   .by_cases hjk:j=k
    .subst hjk;exact Wq
    .rwa [getD_set_ne true hjk]at hu
   .rw[Array.setIfInBounds_comm _ _ hji];exact h3.2
def aJ(L:List cC)(is:List Nat):List cC:=is.filterMap (L[·]?)
def tH(md:Region.Mode)(ops:Array cC):List Nat->Array Bool->Bool
 | [],l=>(Region.ready md ops l).isEmpty
 |t::ts,l=>decide (Region.ready md ops l=[t])&&tH md ops ts (l.setIfInBounds t true)
def Jf(md:Region.Mode)(ops:Array cC)(ts:List Nat):List Nat->Array Bool->Bool
 | [],l=>tH md ops ts l
 |k::ks,l=>(Region.ready md ops l).contains k&&Region.free md ops l k&&Jf md ops ts ks (l.setIfInBounds k true)
theorem Gq{l:Array Bool}(h:tH md ops ts l=true):∀j∈Region.ready md ops l,j∈ts:=by
 cases ts with
 |nil=>intro j hj;simp only[tH,List.isEmpty_iff]at h;rw[h]at hj;cases hj
 |cons t ts=>
  intro j hj;simp only[tH,bt,decide_eq_true_eq]at h;rw[h.1]at hj;simp[cY.1 hj]
theorem vM{L:List cC}{Q:gg->eS->ae->Prop}:∀(ts:List Nat) (l:Array Bool) (a:eS) (w:ae),(∀t∈ts,∃o,L.toArray[t]? =some o)->
 tH md L.toArray ts l=true->wpList P L.toArray Q (aJ L ts) a w->wpAny P md L.toArray Q ts.length l a w
 | [],l,a,w,_,hB,h=>⟨by simpa[tH]using hB,h⟩
 |t::ts,l,a,w,ht,hB,h=>by
  obtain⟨o,ho⟩:=ht t (by simp);simp only[tH,bt,decide_eq_true_eq]at hB;refine⟨fun h1=>(by rw[hB.1]at h1;cases h1),fun i hi=>?_⟩;rw[hB.1]at hi;obtain rfl:i=t:=by simpa using hi
  have ho':L[i]? =some o:=by simpa using ho
  have hw:wpOp P L.toArray Q i (wpList P L.toArray Q (aJ L ts)) a w:=by
   unfold wpOp;simp only[ho];simp only[aJ,cU,ho']at h;exact h
  exact wpOp_mono (fun a' w' h'=>vM ts _ a' w' (fun t ht'=>ht t (by simp[ht'])) hB.2 h') hw
theorem Ws{L:List cC}{Q:eS->Prop}(hsel:Region.noSelect L.toArray=true)(hs1:l9 md L.toArray hs ts=true)(hc:jA md L.toArray ts=true):
 ∀(ks:List Nat) (d:Array Bool) (a:eS),(∀k∈ks,k∈hs)->uT md L.toArray hs ts d->
 Jf md L.toArray ts ks d=true->wpQuiet P L.toArray C Q (aJ L ks) a->DX P md L.toArray C hs (fun d' a'=>tH md L.toArray ts d'=true∧Q a') ks.length d a
 | [],d,a,_,_,hB,h=>⟨hB,h⟩
 |k::ks,d,a,hk,inv,hB,h=>by
  simp only[Jf,bt]at hB;have hr:k∈Region.ready md L.toArray d:=by simpa using hB.1.1
  obtain⟨_,o,h0,_⟩:=cM.1 hr;have h0':L[k]? =some o:=by simpa using h0
  have hst:qOp P L.toArray C k (wpQuiet P L.toArray C Q (aJ L ks)) a:=by
   unfold qOp;simp only[h0];simp only[aJ,cU,h0']at h;exact h
  obtain⟨v,hy,hK⟩:=yieldsIn_of_qOp h0 hst;have hkn:=hk k (by simp);have hkt:=(tF hs1 hkn).1;exact SE h0 (Region.noSelect_spec hsel) hs1 hc hkn (fun d' a' hL=>Gq hL.1) ks.length d a inv (Region.free_spec h0 hB.1.2) hr hy
   (Ws hsel hs1 hc ks _ _ (fun j hj=>hk j (by simp[hj])) (inv.set hr hkt) hB.2 hK)
def cB(P:cA)(ops:Array cC)(Q:eS->Prop):List cC->eS->Prop
 | [],a=>Q a
 |o::rest,a=>if Region.wanted o (yielded ops a.tmps)then ∃v,(∀w,(execOp a.eval o).run P w=.ok (.value v) w)∧cB P ops Q rest (a.put o.dst v)else cB P ops Q rest (a.put o.dst undef)
variable {Q:eS->Prop}{a:eS}
theorem aI{o:cC}{rest:List cC}(h:∀K:eS->Prop,(∀a,cB P ops Q rest a->K a)->if Region.wanted o (yielded ops a.tmps)then ∃v,(∀w,(execOp a.eval o).run P w=.ok (.value v) w)∧K (a.put o.dst v)else K (a.put o.dst undef)):cB P ops Q (o::rest) a:=
 h _ (fun _ h=>h)
theorem au(h:Q a):cB P ops Q [] a:=h
def NW(md:Region.Mode)(ops:Array cC)(hs ts:List Nat):List Nat->Array Bool->Bool
 | [],l=>(l.size==ops.size)&&(ts.all fun t=> !l.getD t true)&&((List.range ops.size).all fun i=>l.getD i true||hs.contains i||ts.contains i)&&Jf md ops ts hs l
 |f::fs,l=>(Region.ready md ops l).contains f&&Region.free md ops l f&&NW md ops hs ts fs (l.setIfInBounds f true)
theorem NY{L:List cC}{Q:gg->eS->ae->Prop}(hQ:∀c a x v w,Q (.panic c) (a.put x v) w->Q (.panic c) a w)(hsel:Region.noSelect L.toArray=true)(hs1:l9 md L.toArray hs ts=true)(hc:jA md L.toArray ts=true):
 ∀(fs:List Nat) (l:Array Bool) (a:eS) (w:ae),C w->iN md L.toArray l->NW md L.toArray hs ts fs l=true->
 cB P L.toArray (wpQuiet P L.toArray C (fun a'=>∀w',C w'->wpList P L.toArray Q (aJ L ts) a' w') (aJ L hs)) (aJ L fs) a->wpAny P md L.toArray Q (fs.length+(hs.length+ts.length)) l a w
 | [],l,a,w,hC,hsh,hB,h=>by
  simp only[NW,bt,beq_iff_eq]at hB;obtain⟨⟨⟨h1,h2⟩,h3⟩,h5⟩:=hB;have inv:uT md L.toArray hs ts l:=⟨h1,hsh,fun t ht=>by simpa using eJ.1 h2 t ht,fun i hi hu=>by
   have:=eJ.1 h3 i (List.mem_range.2 hi);rw[hu]at this;simpa using this⟩
  have H:=Ws (P:=P) (C:=C) hsel hs1 hc hs l a (fun _ h=>h) inv h5 h;rw[List.length_nil,gR];exact DY (Q:=Q) (g:=ts.length) (fun d a' w' hw hL=>vM ts d a' w' (fun t ht=>by
   have:=inv.tail t ht;rcases di t l.size with h'|h'
   .exact⟨_,Array.getElem?_eq_getElem (by rw[<-h1];exact h')⟩
   .simp[Array.getElem?_eq_none h']at this) hL.1 (hL.2 w' hw)) _ _ _ w hC H
 |f::fs,l,a,w,hC,hsh,hB,h=>by
  simp only[NW,bt]at hB;have hr:f∈Region.ready md L.toArray l:=by simpa using hB.1.1
  obtain⟨_,o,h0,_⟩:=cM.1 hr;have h0':L[f]? =some o:=by simpa using h0
  simp only[aJ,cU,h0']at h;rw[eI,show fs.length+1+(hs.length+ts.length)=fs.length+(hs.length+ts.length)+1 by omega];have key:∃v,Yields P L.toArray o v a∧cB P L.toArray (wpQuiet P L.toArray C (fun a'=>∀w',C w'->wpList P L.toArray Q (aJ L ts) a' w') (aJ L hs)) (aJ L fs) (a.put o.dst v):=by
   simp only[cB]at h;by_cases hw:Region.wanted o (yielded L.toArray a.tmps)=true
   .rw[if_pos hw]at h;obtain⟨v,h1,h2⟩:=h;exact⟨v,.inl ⟨hw,h1⟩,h2⟩
   .rw[if_neg hw]at h;exact⟨undef,.inr ⟨by simpa using hw,rfl⟩,h⟩
  obtain⟨v,hy,hK⟩:=key;exact wpAny_first h0 (Region.noSelect_spec hsel) (fun c a w=>hQ c a _ v w) _ _ _ _ (Region.free_spec h0 hB.1.2) hr hy (NY hQ hsel hs1 hc fs _ _ w hC (hsh.set hr) hB.2 hK)
theorem dG{id:Nat}{Q:gg->eS->ae->Prop}{w:ae}{l:List cC}(fs hs ts:List Nat)(hm:P.follows .mixedOrders=true)(hQ:∀c a x v w,Q (.panic c) (a.put x v) w->Q (.panic c) a w)(hB:(Region.noSelect l.toArray&&l9 .any l.toArray hs ts&&jA .any l.toArray ts&&decide (fs.length+(hs.length+ts.length)=l.length)&&NW .any l.toArray hs ts fs (Array.replicate l.length false))=true)(h:cB P l.toArray (wpQuiet P l.toArray (fun w'=>∃n,w'=w.drewN n) (fun a'=>∀w',(∃n,w'=w.drewN n)->wpList P l.toArray Q (aJ l ts) a' w') (aJ l hs)) (aJ l fs) a):(Code.region id l.toArray true).wp P Q a w:=by
 simp only[bt,decide_eq_true_eq]at hB;obtain⟨⟨⟨⟨h1,h2⟩,h3⟩,h4⟩,h5⟩:=hB;refine wp_region_any hm ?_;have:=NY (P:=P) (md:=.any) (C:=fun w'=>∃n,w'=w.drewN n) hQ h1 h2 h3 fs _ a {w with drawn:=w.drawn+1} ⟨1,rfl⟩ (fun j oj _ hl=>by rw[getD_replicate_false]at hl;cases hl) h5 h;rw[h4]at this;simpa using this
end
end Go.Proofs.YtlhhcnknclnlaaaGreatDoor.Top
namespace Go.Proofs.YtlhhcnknclnlaaaGreatDoor.Top
open Go Go.WideShapes Go.RowKit Go.Proofs.ah.aN
variable {b c m q room:Nat}{w:ae}
theorem St.grown{w':ae}{t:Nat}{vs:List aa}{r:Option Nat}(h:St w b t vs)(hg:w.grownBy w' r)(hne:r≠some b):St w' b t vs:=(hg.block b h.lt (eN hne)).trans h
variable {L:List Nm}{x:Nm}
theorem gU(hx:x∈L)(F:Nm->List Int):bZ L F=sec (F x).length+bZ (L.erase x) F:=by
 unfold bZ;rw[List.Perm.sum_nat ((List.perm_cons_erase hx).map _)];simp
theorem wT(n:Nat):n<=16*sec n:=by unfold sec;omega
theorem uU{n:Nat}(hn:n<4611686018427387904):fi af 29 #[.int .i64 (n:Int)] w fun e w'=>e=.returned (.int .i64 (sec n:Nat))∧w'=w:=by
 have h:((n:Int)+16-1)/16=(sec n:Nat):=by unfold sec;omega
 go_enter func29,ntmps29
 go_wp2
 go_ret;exact⟨congrArg (fun z=>Ending.returned (.int .i64 z)) h,rfl⟩
variable {g:Nm->Nat}
theorem rV(h:eU w 9 m q (rT L g)):eU w 9 m L.length (rT L g):=by
 have:=h.tight l8 aaU (L.map Lit.string) (fun kl hk=>by
  cases kl with
  |string x=>
   by_cases hx:x∈L
   .exact gz.2 ⟨x,hx,rfl⟩
   .exact absurd (n_ hx) hk
  |_=>exact absurd rfl hk)
 simpa using this
theorem Raw.erase{w w2:ae}{D:Nat->Prop}{b m q:Nat}{room:Nat}{n:Int}{kv:aa}{L:List Nm}{g:Nm->Nat}{v s:Nm->aa}{F:Nm->List Int}{x:Nm}(R:Raw w D b m room L g v s F)(hx:x∈L)(hst:St w2 b 84 (Ng m room (bZ (L.erase x) F:Nat) n kv))(hm:eU w2 9 m q (upd (rT L g) (.string x) none))(ne:∀k,k≠b->k≠m->k<w.heap.size->w2.heap[k]? =w.heap[k]?)(hz:w.heap.size<=w2.heap.size):
 Raw w2 D b m room (L.erase x) g v s F:=by
 obtain⟨n0,kv0,tJ⟩:=R.st;rw[DU R.mR]at hm;have hs:∀{y},y∈L.erase x->y∈L:=fun h=>dr h
 refine⟨⟨n,kv,hst⟩,?_,R.rm,R.db,R.dm,rV hm,R.mR.erase _,fun y hy=>?_,fun y z hy hz=>R.inj y z (hs hy) (hs hz),fun k hk=>bj (R.lt k hk) hz⟩
 .have:=gU hx F;have:=R.le;omega
 .obtain⟨a1,a2,a3,a4⟩:=R.file y (hs hy);exact⟨(ne _ (a1.ne tJ (by decide)) (eN (R.map.ne a1)) a1.lt).trans a1,fq a2 fun k hk=>ne k (tJ.own_ne a2 (by decide) k hk) (R.map.own_ne a2 k hk) (bJ a2 k hk),a3,a4⟩
variable {D:Nat->Prop}{v:Nm->aa}
theorem Jg{s:Nm->aa}{F:Nm->List Int}{x:ByteArray}(R:Raw w D b m room L g v s F)(hs:x.size<=maxLen)(hx:nm x∈L):
 fi af 71 #[.pointer (some ⟨b,0,none⟩),.string x] w fun e w'=>e=.returned (.tuple #[])∧Raw w' D b m room (L.erase (nm x)) g v s F∧Stp D D w w':=by
 obtain⟨n,kv,hst⟩:=R.st;obtain⟨a1,a2,a3,a4⟩:=R.file _ hx;obtain⟨A,cp,hv⟩:=aW a2;have hse:=gU hx F;have hle:=R.le;have hrm:=R.rm.1;have hp:=wT (F (nm x)).length;have c0:=a1.cell 0 rfl;rw[hv]at c0;have d0:=hst.cell 0 rfl;have d2:=hst.cell 2 rfl;have f2:=hst.frozen 2;have hl:=R.map.look l8 cI (Ca _) (DV x hs);rw[mQ hx]at hl;simp only[ptr,fy]at hl;have hu:(bZ L F:Int)-(sec (F (nm x)).length:Nat)=(bZ (L.erase (nm x)) F:Nat):=by omega
 have hl1:(F (nm x)).length<4611686018427387904:=by omega
 have HH:=Y3 R hst hse;clear R hst a1 a2 a3 a4 hv hse;go_enter func71,ntmps71
 go_wp2_with fail
 refine dG [] [0,1,2,3,4,5,6,7,8,9,10] [11,12,13] (by kernel_rfl) (fun _ _ x _ _ h=>by cases x<;>exact h) (by kernel_rfl) ?_;simp only[aJ,cU,List.filterMap_nil,List.getElem?_cons_succ,List.getElem?_cons_zero];refine au ?_
 repeat quiet_step ((go_at_call 29;exact Calls.quiet_of_same (uU hl1)))
 refine wpQuiet_nil ?_;rintro _ ⟨nq,rfl⟩;obtain⟨R0,tJ,hse⟩:=HH.out;have R:=R0.drewN nq;have hst:St (w.drewN nq) b 84 _:=tJ;have kI:=hst.set 2 (.int .i64 (bZ (L.erase (nm x)) F:Nat));have ne:∀k,k≠b->((w.drewN nq).setCell ⟨b,2,none⟩ (.int .i64 (bZ (L.erase (nm x)) F:Nat))).heap[k]? =(w.drewN nq).heap[k]? :=fun k hk=>ax _ _ _ _ hk
 obtain⟨w2,hr,hm2,ht⟩:=(R.map.move (ne _ (R.map.ne hst))).drop l8 cI (DV x hs) 0;have e0:=kI.cell 0 rfl;have HH:=Y7 R hst kI hm2 ht ne hse;clear R R0 hst tJ kI hm2 ht ne hse
 go_wp2
 obtain⟨R,hst,kI,hm2,ht,ne,hse⟩:=HH.out;have hg:=ht.grown
 go_end0
 refine⟨rfl,R.erase hx (kI.grown hg fun e=>R.map.ne hst (bz e)) hm2 (fun k k1 k2 k3=>(hg.block k (by simpa using k3) fun e=>k2 (bz e)).trans (ne k k1)) (by simpa using hg.size),?_,fun _ h=>.inl h⟩;exact(((Keeps.refl D w).drewN nq).setCell (.inl R.db) _).turned (.inl R.dm) ht
variable {F:Files}
theorem qI(h:aV w D b room F c)(s:ByteArray)(hs:s.size<=maxLen){l:List Int}(hx:F (nm s)=some l):
 fi af 59 #[.pointer (some ⟨b,0,none⟩),.string s] w fun e w'=>e=.returned (.int .i64 0)∧aV w' D b room (upd F (nm s) none) (c-(sec l.length+1))∧Stp D D w w':=by
 obtain⟨m,L,g,v,sy,G,R,hc,hF⟩:=h;obtain⟨nQ,rfl⟩:=aV.in_ hF hx;obtain⟨n,kv,hst⟩:=R.st;have HH:=Y3 hc hF hx;clear hc hF hx;go_enter ie,gO
 go_wp2_with (first|(go_at_call 70;refine(Ac hst R.map hs (mQ nQ)).mono ?_;rintro e w' ⟨rfl,rfl⟩)|(go_at_call 71;refine(Jg (R.op hst) hs nQ).mono ?_;rintro e w' ⟨rfl,R1,hk⟩))
 obtain⟨hc,hF,hx⟩:=HH.out;go_ret;refine⟨rfl,⟨_,_,_,_,_,_,R1,?_,fun y=>?_⟩,(R.keeps n).trans hk⟩
 .rw[hc,gU nQ,ey nQ];have:=eM nQ;omega
 .unfold upd
  split
  .subst_vars
   rw[if_neg fun h=>(R.mR.mem_erase_iff.1 h).1 rfl]
  .rename_i hy
   rw[hF];by_cases SF:y∈L
   .rw[if_pos SF,if_pos ((dC hy).2 SF)]
   .rw[if_neg SF,if_neg fun h=>SF (dr h)]
theorem Wt{s:ByteArray}(h0:0<s.size)(R4:s.size<=24):fi af 234 #[.string s] w fun e w'=>e=.returned (.bool true)∧w'=w:=by
 have h1:¬s.toList=[]:=fun h=>by
  rw[ByteArray.toList_eq]at h;have:=DI s;rw[h]at this;exact absurd this (by simp;omega)
 go_enter func234,ntmps234
 go_wp2
 go_ret;exact⟨by simp[h1];omega,rfl⟩
theorem wU(hx:x∉L)(F:Nm->List Int)(l:List Int):bZ (x::L) (upd F x l)=sec l.length+bZ L F:=by
 unfold bZ;rw[fh,List.sum_cons,upd_same];rw[List.map_congr_left fun y hy=>by rw[aM _ _ fun e=>hx (by rw[<-e];exact hy)]]
theorem Raw.insert{w2:ae}{D':Nat->Prop}{k0:Nat}{n:Int}{kv v0 s0:aa}{l0:List Int}{s:Nm->aa}{F:Nm->List Int}(R:Raw w D b m room L g v s F)(hx:x∉L)(hst:St w2 b 84 (Ng m room (sec l0.length+bZ L F:Nat) n kv))(hle:sec l0.length+bZ L F<=room)(hm:eU w2 9 m q (upd (rT L g) (.string x) (some (ptr k0))))(ne:∀k,k≠b->k≠m->k<w.heap.size->w2.heap[k]? =w.heap[k]?)(hf:St w2 k0 95 [v0,s0])(ho:w2.ownsRow 0 5 1 v0 l0.length (nums .u8 l0))(hk0:D' k0)(hv0:∀k,v0.ownBlock=some k->D' k)(hD:∀k,D k->D' k)(hD':∀k,D' k->k<w2.heap.size)(hap:∀y,y∈L->g y≠k0∧∀k,(v y).ownBlock=some k->v0.ownBlock≠some k):
 Raw w2 D' b m room (x::L) (upd g x k0) (upd v x v0) (upd s x s0) (upd F x l0):=by
 obtain⟨n0,kv0,tJ⟩:=R.st;rw[NS]at hm;refine⟨⟨n,kv,by rw[wU hx];exact hst⟩,by rw[wU hx];exact hle,R.rm,hD _ R.db,hD _ R.dm,rV hm,List.nodup_cons.2 ⟨hx,R.mR⟩,fun y hy=>?_,fun y z hy hz hyz=>?_,hD'⟩
 .by_cases e:y=x
  .subst e;rw[upd_same,upd_same,upd_same,upd_same];exact⟨hf,ho,hk0,hv0⟩
  .have SF:=(cX.1 hy).resolve_left e;rw[aM _ _ e,aM _ _ e,aM _ _ e,aM _ _ e];obtain⟨a1,a2,a3,a4⟩:=R.file y SF;exact⟨(ne _ (a1.ne tJ (by decide)) (eN (R.map.ne a1)) a1.lt).trans a1,fq a2 fun k hk=>ne k (tJ.own_ne a2 (by decide) k hk) (R.map.own_ne a2 k hk) (bJ a2 k hk),hD _ a3,fun k hk=>hD _ (a4 k hk)⟩
 .by_cases e:y=x
  .subst e;have hz':=(cX.1 hz).resolve_left (eN hyz);rw[upd_same,upd_same,aM _ _ (eN hyz),aM _ _ (eN hyz)];exact⟨eN (hap z hz').1,fun k hk hk'=>(hap z hz').2 k hk' hk⟩
  .have SF:y∈L:=(cX.1 hy).resolve_left e;by_cases e':z=x
   .subst e';rw[upd_same,upd_same,aM _ _ e,aM _ _ e];exact hap y SF
   .rw[aM _ _ e,aM _ _ e,aM _ _ e',aM _ _ e'];exact R.inj y z SF ((cX.1 hz).resolve_left e') hyz
theorem aaV{G:Nm->List Int}(hF:∀x,F x=if x∈L then some (G x)else none)(x:Nm)(l:List Int)(y:Nm):upd F x (some l) y=if y∈x::L then some (upd G x l y)else none:=by
 by_cases e:y=x
 .subst e;rw[upd_same,upd_same,if_pos (by simp)]
 .rw[aM _ _ e,aM _ _ e,hF];by_cases h:y∈L
  .rw[if_pos h,if_pos (by simp[h])]
  .rw[if_neg h,if_neg (by simp[h,e])]
theorem rW(h:aV w D b room F c)(s:ByteArray)(h0:0<s.size)(R4:s.size<=24)(hx:F (nm s)=none)(hc:c<1000000):
 fi af 209 #[.pointer (some ⟨b,0,none⟩),.string s] w fun e w'=>e=.returned (.int .i64 0)∧∃D',aV w' D' b room (upd F (nm s) (some [])) (c+1)∧Stp D D' w w':=by
 obtain⟨m,L,g,v,sy,G,R,hcc,hF⟩:=h;have nQ:=aV.NV hF hx;have hsz:s.size<=maxLen:=by unfold maxLen;omega
 obtain⟨n,kv,hst⟩:=R.st;have d0:=(rU hst).cell 0 rfl;have R1:=(R.op hst)
 have hq:L.length<maxLen:=by unfold maxLen;omega
 have hm1:eU ((uS w b n).alloc (.cells #[.slice none 0 0,.slice none 0 0] 95 (0,0))) 9 m L.length (rT L g):=R1.map.move (dt _ _ _ R1.map.lt);obtain⟨w2,hr,hm2,ht⟩:=hm1.store l8 cI hq (DV s hsz) trivial (ptr (uS w b n).heap.size);have HH:=Y6 hcc hF hx R1 hm2 ht;clear hcc hF hx R1 hm1 hm2 ht;unfold ptr at hr;go_enter func209,ntmps209
 go_wp2_with (first|(go_at_call 70;refine(Gn hst R.map hsz (n_ nQ)).mono ?_;rintro e w' ⟨rfl,rfl⟩)|(go_at_call 234;refine(Wt h0 R4).mono ?_;rintro e w' ⟨rfl,rfl⟩))
 obtain⟨hcc,hF,hx,R1,hm2,ht⟩:=HH.out;have hg:=ht.grown;have hN:=St.new (uS w b n) 95 #[.slice none 0 0,.slice none 0 0];have hmb:=R.map.lt;have e2:w2.heap.size>=(uS w b n).heap.size+1:=by simpa using hg.size
 have e1:w.heap.size=(uS w b n).heap.size:=by simp[uS]
 go_ret;refine⟨rfl,fun k=>D k∨k=(uS w b n).heap.size,⟨m,_,_,_,_,_,R1.insert (l0:=[]) (v0:=.slice none 0 0) (s0:=.slice none 0 0) nQ (n:=wrap64 (n+1)) (kv:=kv) (by simpa[sec]using((rU hst).alloc (.cells #[.slice none 0 0,.slice none 0 0] 95 (0,0))).grown hg fun e=>R.map.ne hst (bz e)) (by simpa[sec]using R.le) hm2 (fun k _ k2 k3=>(hg.block k (by simp;omega) fun e=>k2 (bz e)).trans (dt _ _ _ k3)) (hN.grown hg fun e=>by have:=bz e;omega) ⟨rfl,.inl ⟨rfl,rfl⟩⟩ (.inr rfl) (fun k hk=>by cases hk) (fun k hk=>.inl hk) (fun k hk=>?_) (fun y hy=>⟨fun e=>?_,fun k _ hk=>by cases hk⟩),?_,fun y=>?_⟩,?_⟩
 .rcases hk with hk|rfl
  .have:=R.lt k hk;omega
  .omega
 .have:=(R1.file y hy).1.lt;omega
 .rw[hcc,wU nQ];simp[sec];omega
 .exact aaV hF _ _ y
 .exact⟨((((Keeps.refl D w).setCell (.inl R.db) _).alloc _).turned (.inl R.dm) ht),fun k hk=>hk.imp id fun e=>by omega⟩
end Go.Proofs.YtlhhcnknclnlaaaGreatDoor.Top
