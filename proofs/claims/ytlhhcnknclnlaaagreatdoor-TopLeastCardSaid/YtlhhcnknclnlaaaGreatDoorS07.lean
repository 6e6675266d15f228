/- Parts of the proof. -/
import Derived.Deep.LoopGhost
import Derived.Laws.DeepStrings4
import Derived.Laws.MakeOwn
import Derived.Test.YtlhhcnknclnlaaaGreatDoorS03
import Derived.Test.YtlhhcnknclnlaaaGreatDoorS04
import Derived.Test.YtlhhcnknclnlaaaGreatDoorS06
set_option linter.all false
set_option maxRecDepth 100000
set_option maxHeartbeats 16000000
open Nat renaming lt_of_lt_of_le->aa,le_trans->bb,le_refl->bk
open Go.Proofs.Tryz renaming prog->ab,t279->bt,ntmps110->cE,func110->cH,t283->cI
open List renaming getElem?_eq_getElem->ae,replicate->af,eq_of_mem_replicate->ai,getElem?_set_ne->ar,mem_of_getElem?->aw,pairwise_append->ax,mem_append->aE,mem_cons_of_mem->bj,map_congr_left->bz,flatten_cons->cd,append_assoc->cm,take_add_one->cy,length_cons->cz,nil_append->cA,mem_cons->cD,map_cons->cF,sum_cons->cG
open Go.IntKind renaming wrap_i64->ag,i64->ba
open Go.World renaming block_lt_of_cell?->al,ownsRow_nil->cx
open List.Pairwise renaming nil->an
open ByteArray renaming extract->ao
open Go renaming World->aq,Calls->ca,Value->cq
open Go.Ending renaming returned->az
open Go.Value renaming string->a_,ownBlock->cC
open Go.Proofs.Tryz
namespace Go.Proofs.YtlhhcnknclnlaaaGreatDoor.Top
open Go Go.WideShapes Go.RowKit Go.Proofs.YtlhhcnknclnlaaaGreatDoor.iH Go.Proofs.YtlhhcnknclnlaaaGreatDoor.Oct Go.Proofs.ah.aN Go.Proofs.ah.bA
theorem ET:∀(R:List (List Rc)) (i:Nat) (s:List Rc),R[i]? =some []->(R.set i s).flatten.Perm (R.flatten++s)
 | [],i,s,h=>by cases h
 |r::R,0,s,h=>by
  obtain rfl:r=[]:=by simpa using h
  simp only[List.set_cons_zero,cd,cA];exact List.perm_append_comm
 |r::R,i+1,s,h=>by
  have ih:=ET R i s (by simpa using h);simp only[List.set_cons_succ,cd,cm];exact ih.append_left r
structure Md (all p:List Rc) (H:List Hd) (R:List (List Rc)) (i:Nat):Prop where
 perm:(p++(H.map (·.1)++R.flatten)).Perm all
 out:wZ p
 rest:∀r∈R,wZ r
 near:∀k r,k≠i->R[k]? =some r->∀y∈r,∃h∈H,h.2=k∧nu y h.1=false
 far:∀z∈p,∀y∈H.map (·.1)++R.flatten,nu y z=false
variable {H H':List Hd}{N b bf bh br bx c c' gr i m nx:Nat}
theorem Mg.add{all:List Rc}{R:List (List Rc)}{s z:List Rc}(h:Mg all [] H R)(hi:R[i]? =some [])(hs:wZ s)(hp:s.Perm z):Md (all++z) [] H (R.set i s) i:=by
 have hil:=(List.getElem?_eq_some_iff.1 hi).1;refine⟨?_,an,fun r hr=>?_,fun k r hk hr y hy=>?_,fun z hz=>by cases hz⟩
 .have h1:=(ET R i s hi).append_left (H.map (·.1));have h2:=h.perm;simp only[cA]at h2⊢;refine h1.trans ?_;rw[<-cm];exact h2.append hp
 .rcases List.mem_or_eq_of_mem_set hr with hr|rfl
  .exact h.rest r hr
  .exact hs
 .rw[ar (Ne.symm hk)]at hr;exact h.near k r hr y hy
variable {M p:List Rc}{x:Hd}
theorem Mg.afX{all:List Rc}{R:List (List Rc)}(h:Mg all p (x::H) R)(hx:∀y∈H,hlt y x=false):Md all (p++[x.1]) H R x.2:=by
 obtain⟨a1,a2,a3,a4,a5⟩:=h.pop hx;exact⟨a1,a2,a3,a4,a5⟩
variable {Q Sh T:Nat->Prop}{X w w' wr:aq}
theorem J7{R:List (List Rc)}{s:List Rc}{all:List Rc}(hM:mI Q w br gr N R)(hr:R[i]? =some s)(hH:iK 383 380 TI w Sh bh H)(hp:HP hlt hd0 H)(hl:all.length<1000)(hd:Md all p H R i)(hb:¬Sh br)(hg:¬Sh gr)(hQ:∀k,Q k->¬Sh k∧k≠gr)(hne:br≠gr):
 ca ab 265 #[.int .i64 (i:Nat),.pointer (some ⟨br,0,none⟩),.pointer (some ⟨bh,0,none⟩)] w fun e w'=>e=.returned (.tuple #[])∧∃Sh' H' R',iK 383 380 TI w' Sh' bh H'∧HP hlt hd0 H'∧mI Q w' br gr N R'∧Mg all p H' R'∧(∀j,j≠i->R'[j]? =R[j]?)∧Keeps (fun k=>Sh k∨k=gr) w w'∧(∀k,Sh' k->Sh k∨w.heap.size<=k)∧∀h∈H',h∈H∨h.2=i:=by
 cases s with
 |nil=>
  refine(Il hM hr).mono ?_;rintro e w' ⟨rfl,rfl⟩;exact⟨rfl,Sh,H,R,hH,hp,hM,Mg.none (.inl hr) hd.perm hd.out hd.rest hd.near hd.far,fun _ _=>rfl,Keeps.refl _ _,fun _ h=>.inl h,fun _ h=>.inl h⟩
 |cons y r=>
  have hHl:H.length<1000:=by
   have:=hd.perm.length_eq;simp at this;omega
  refine(Im hM hr hH hp hHl hb hg hQ hne).mono ?_;rintro e w' ⟨rfl,Sh',H',h1,h2,h3,h4,h5,h6⟩;exact⟨rfl,Sh',H',R.set i r,h1,h2,h4,(Mg.next hr hd.perm hd.out hd.rest hd.near hd.far).congr h3.symm,fun j hj=>ar (Ne.symm hj),h5,h6,fun h hh=>(cD.1 (h3.mem_iff.1 hh)).symm.imp id fun e=>by rw[e]⟩
structure CY (w wr:aq) (br gr bh N:Nat) (Q Sh:Nat->Prop) (H:List Hd) (R:List (List Rc)):Prop where
 rest:mI Q wr br gr N R
 heap:iK 383 380 TI wr Sh bh H
 hp:HP hlt hd0 H
 below:Below w.heap.size w wr
 sh:∀k,Sh k->w.heap.size<=k∧k≠br∧k≠gr∧¬Q k
 q:∀k,Q k->w.heap.size<=k∧k≠br∧k≠gr∧k<wr.heap.size
 ne:br≠gr
 brl:w.heap.size<=br∧w.heap.size<=gr
def Zd(n₀:Nat)(W:aq)(v:cq)(zs:List (List Rc)):Prop:=
 ∃(gl ol c:Nat) (vs:List cq),v=.slice (some ⟨gl,ol,none⟩) zs.length c∧gl<n₀∧vs.length=zs.length∧(∀i u,vs[i]? =some u->W.cell? ⟨gl,ol+i,none⟩=some u)∧∀(i:Nat) (u:cq) (z:List Rc),vs[i]? =some u->zs[i]? =some z->jD n₀ W u z
def MgA(w wr:aq)(br gr bh N:Nat)(zs:List (List Rc))(k:Nat):Prop:=
 ∃Q Sh H R,CY w wr br gr bh N Q Sh H R∧Mg (zs.take k).flatten [] H R∧(∀h∈H,h.2<N)∧∀j,k<=j->j<N->R[j]? =some []
theorem CY.at_{R:List (List Rc)}(h:CY w wr br gr bh N Q Sh H R):wr.cell? ⟨br,0,none⟩=some (.slice (some ⟨gr,0,none⟩) N N)∧∀i,i<N->(∃v,wr.cell? ⟨gr,i,none⟩=some v)∧wr.frozen? ⟨gr,i,none⟩=false:=by
 obtain⟨vs,a1,a2,a3,a4,a5⟩:=h.rest;exact⟨a1.cell 0 rfl,fun i hi=>⟨⟨_,a2.cell i (ae (by omega))⟩,a2.frozen i⟩⟩
variable {v:cq}
theorem CY.put{w3:aq}{k:Nat}{R:List (List Rc)}{s:List Rc}(h:CY w wr br gr bh N Q Sh H R)(hb:Below wr.heap.size wr w3)(ho:w3.ownsRow wr.heap.size 283 2 v s.length (recs s))(hk:k<N):
 ∃Q',CY w (w3.setCell ⟨gr,k,none⟩ v) br gr bh N Q' Sh H (R.set k s):=by
 obtain⟨a1,a2,a3,a4,a5,a6,a7,a8⟩:=h;have kb:Keeps (fun _=>False) wr w3:=Keeps.of_below hb;have hgl:gr<wr.heap.size:=by obtain⟨vs,_,q,_⟩:=a1;exact q.lt
 have hbl:br<wr.heap.size:=by obtain⟨vs,q,_⟩:=a1;exact q.lt
 have hsl:∀j,Sh j->j<wr.heap.size:=by obtain⟨_,_,_,_,_,q⟩:=a2;exact q
 have hq:∀j,(Q j∨v.ownBlock=some j)->w.heap.size<=j∧j≠br∧j≠gr∧j<w3.heap.size∧¬Sh j:=fun j hj=>by
  rcases hj with hj|hj
  .have:=a6 j hj;exact⟨this.1,this.2.1,this.2.2.1,aa this.2.2.2 hb.size,fun hh=>(a5 j hh).2.2.2 hj⟩
  .have h1:=gB ho j hj;have h2:=bJ ho j hj;have h3:=a4.size;exact⟨by omega,by omega,by omega,h2,fun hh=>by have:=hsl j hh;omega⟩
 have kg:Keeps (fun j=>j=gr) w3 (w3.setCell ⟨gr,k,none⟩ v):=vC w3 0 gr k v;refine⟨fun j=>Q j∨v.ownBlock=some j,?_,(a2.keep kb fun _ _=>id).keep kg fun j hj=>(a5 j hj).2.2.1,a3,(a4.trans (hb.mono a4.size)).setCell (p:=⟨gr,k,none⟩) a8.2 v,fun j hj=>⟨(a5 j hj).1,(a5 j hj).2.1,(a5 j hj).2.2.1,fun h=>(hq j h).2.2.2.2 hj⟩,fun j hj=>?_,a7,a8⟩
 .refine mI.set ?_ hk (nK.own ho rfl fun j hj=>.inr hj) (fun j hj=>(hq j hj).2.2.1) a7;obtain⟨vs,b1,b2,b3,b4,b5⟩:=a1.keep kb id id fun _ _=>id
  refine⟨vs,b1,b2,b3,b4,fun i u r hu hr=>?_⟩;obtain⟨A,cap,e,c0,c1,c2⟩:=b5 i u r hu hr;exact⟨A,cap,e,c0,c1,fun a ha=>⟨.inl (c2 a ha).1,(c2 a ha).2⟩⟩
 .have:=hq j hj;have hz:(w3.setCell ⟨gr,k,none⟩ v).heap.size=w3.heap.size:=by simp
  exact⟨this.1,this.2.1,this.2.2.1,by rw[hz];exact this.2.2.2.1⟩
theorem CY.next{Sh':Nat->Prop}{R R':List (List Rc)}(h:CY w wr br gr bh N Q Sh H R)(h1:iK 383 380 TI w' Sh' bh H')(h2:HP hlt hd0 H')(h3:mI Q w' br gr N R')(h4:Keeps (fun k=>Sh k∨k=gr) wr w')(h5:∀k,Sh' k->Sh k∨wr.heap.size<=k):CY w w' br gr bh N Q Sh' H' R':=by
 obtain⟨a1,a2,a3,a4,a5,a6,a7,a8⟩:=h;have hgl:gr<wr.heap.size:=by obtain⟨vs,_,q,_⟩:=a1;exact q.lt
 have hbl:br<wr.heap.size:=by obtain⟨vs,q,_⟩:=a1;exact q.lt
 have hw:=a4.size;refine⟨h3,h1,h2,⟨h4.1.trans a4.os,h4.2.1.trans a4.tape,h4.2.2.1.trans a4.output,bb a4.size h4.size,fun k hk=>(h4.at_ (aa hk a4.size) fun hh=>hh.elim (fun h=>by have:=(a5 k h).1;omega) fun e=>by omega).trans (a4.block k hk)⟩,fun k hk=>?_,fun k hk=>?_,a7,a8⟩
 .rcases h5 k hk with h|h
  .exact a5 k h
  .exact⟨by omega,by omega,by omega,fun hq=>by have:=(a6 k hq).2.2.2;omega⟩
 .have:=a6 k hk;exact⟨this.1,this.2.1,this.2.2.1,aa this.2.2.2 h4.size⟩
theorem CY.keep{w wr w':aq}{br gr bh N:Nat}{Q Sh S:Nat->Prop}{H:List Hd}{R:List (List Rc)}(h:CY w wr br gr bh N Q Sh H R)(hk:Keeps S wr w')(hS:∀k,S k->w.heap.size<=k∧¬Sh k∧k≠gr∧k≠br∧¬Q k):CY w w' br gr bh N Q Sh H R:=by
 obtain⟨a1,a2,a3,a4,a5,a6,a7,a8⟩:=h;exact⟨a1.keep hk (fun h=>(hS _ h).2.2.2.1 rfl) (fun h=>(hS _ h).2.2.1 rfl) fun k hq h=>(hS k h).2.2.2.2 hq,a2.keep hk fun k hs h=>(hS k h).2.1 hs,a3,
  ⟨hk.1.trans a4.os,hk.2.1.trans a4.tape,hk.2.2.1.trans a4.output,bb a4.size hk.size,fun k hkl=>(hk.at_ (aa hkl a4.size) fun h=>by have:=(hS k h).1;omega).trans (a4.block k hkl)⟩,
  a5,fun k hq=>⟨(a6 k hq).1,(a6 k hq).2.1,(a6 k hq).2.2.1,aa (a6 k hq).2.2.2 hk.size⟩,a7,a8⟩
theorem CY.pop{R:List (List Rc)}(h:CY w wr br gr bh N Q Sh H R)(h1:iK 383 380 TI w' Sh bh H')(h2:HP hlt hd0 H')(h4:Keeps Sh wr w'):CY w w' br gr bh N Q Sh H' R:=
 h.next h1 h2 (h.rest.keep h4 (fun hh=>(h.sh _ hh).2.1 rfl) (fun hh=>(h.sh _ hh).2.2.1 rfl) fun k hq hh=>(h.sh k hh).2.2.2 hq) (h4.mono fun k _ hh=>.inl hh) fun k hk=>.inl hk
structure Sc (w wr:aq) (bf br gr:Nat) (T Sh Q:Nat->Prop) (l:List Rc):Prop where
 fold:nW wr T bf 2 l
 sep:∀k,T k->w.heap.size<=k∧¬Sh k∧k≠gr∧k≠br∧¬Q k
theorem EU(hp:HP hlt hd0 H)(hx:x=H.getD 0 hd0)(hperm:(x::H').Perm H):∀y∈H',hlt y x=false:=fun y hy=>by
 have h1:=hperm.mem_iff.1 (bj _ hy);obtain⟨j,hj,rfl⟩:=List.getElem_of_mem h1;have:=Oz JL hp j hj;rw[List.getD_eq_getElem?_getD,ae hj]at this;rw[hx];exact this
def Ze(w wr:aq)(br gr bh bf N:Nat)(all:List Rc)(bx:Nat)(kq:Nat):Bool->Prop
 |true=>∃Q Sh T H R p x,CY w wr br gr bh N Q Sh H R∧Sc w wr bf br gr T Sh Q (p.foldl lK [])∧St wr bx 383 (hc TI x)∧(¬Sh bx∧¬T bx∧bx≠gr)∧Md all (p++[x.1]) H R x.2∧x.2<N∧(∀h∈H,h.2<N)∧kq+p.length=all.length
 |false=>∃T p,nW wr T bf 2 (p.foldl lK [])∧(∀k,T k->w.heap.size<=k)∧wZ p∧p.Perm all∧Below w.heap.size w wr
def acU(w X w':aq)(br gr bh bf N:Nat)(all p:List Rc)(Q Sh T:Nat->Prop)(R:List (List Rc))(x:Hd):Bool->Prop
 |true=>∃H',CY w w' br gr bh N Q Sh H' R∧Sc w w' bf br gr T Sh Q (p.foldl lK [])∧Md all (p++[x.1]) H' R x.2∧x.2<N∧(∀h∈H',h.2<N)∧p.length<all.length
 |false=>Sc w w' bf br gr T Sh Q (p.foldl lK [])∧wZ p∧p.Perm all∧Below w.heap.size w w'
theorem Sc.keep{w wr w':aq}{bf br gr:Nat}{T Sh Q S:Nat->Prop}{l:List Rc}(h:Sc w wr bf br gr T Sh Q l)(hk:Keeps S wr w')(hS:∀k,T k->¬S k):Sc w w' bf br gr T Sh Q l:=⟨h.fold.keep hk hS,h.sep⟩
theorem Qp{all:List Rc}{R:List (List Rc)}(hM:CY w X br gr bh N Q Sh H R)(hg:Mg all p H R)(hr:∀h∈H,h.2<N)(hF:Sc w X bf br gr T Sh Q (p.foldl lK []))(hall:all.length<1000):
 ca ab 270 #[.pointer (some ⟨bh,0,none⟩)] X fun e w'=>∃(x:Hd) (t:Bool),e=.returned (.tuple #[hv3 x.1 (TI x.2),.bool t])∧Keeps Sh X w'∧acU w X w' br gr bh bf N all p Q Sh T R x t:=by
 have hHl:H.length+p.length<=all.length:=by
  have:=hg.perm.length_eq;simp at this;omega
 cases H with
 |nil=>
  refine(acS hM.heap).mono ?_;rintro e w' ⟨rfl,hb⟩;have hk:Keeps Sh X w':=Keeps.of_below hb;obtain⟨d1,d2⟩:=hg.done;exact⟨hd0,false,rfl,hk,hF.keep (Keeps.of_below (S:=fun _=>False) hb) fun _ _=>id,d1,d2,hM.below.trans (hb.mono hM.below.size)⟩
 |cons y H=>
  refine(afV hM.heap hM.hp (by simp) (by simp at hHl ⊢; omega)).mono ?_;rintro e w' ⟨rfl,H',h1,h2,h3,h4⟩;have hx:=EU hM.hp rfl h3;have hg2:=(hg.congr h3.symm).afX hx;have hmem:(y::H).getD 0 hd0∈y::H:=by simp
  exact⟨_,true,rfl,h4.1,H',hM.pop h1 h2 h4.1,hF.keep h4.1 fun k hk=>(hF.sep k hk).2.1,hg2,hr _ hmem,fun h hh=>hr h (h3.mem_iff.1 (bj _ hh)),by simp at hHl;omega⟩
theorem Ze.mk{w1 V:aq}{all:List Rc}{R:List (List Rc)}{t:Bool}(h:acU w X w1 br gr bh bf N all p Q Sh T R x t)(hk:Keeps (fun k=>k=bx) w1 V)(hs:St V bx 383 (hc TI x))(hb:w.heap.size<=bx∧¬Sh bx∧bx≠gr∧bx≠br∧¬Q bx∧¬T bx):Ze w V br gr bh bf N all bx (all.length-p.length) t:=by
 cases t with
 |false=>
  obtain⟨a1,a2,a3,a4⟩:=h;exact⟨T,p,(a1.keep hk fun k hT e=>hb.2.2.2.2.2 (e▸hT)).fold,fun k hT=>(a1.sep k hT).1,a2,a3,⟨hk.1.trans a4.os,hk.2.1.trans a4.tape,hk.2.2.1.trans a4.output,bb a4.size hk.size,fun k hkl=>(hk.at_ (aa hkl a4.size) fun e=>by have:=hb.1;omega).trans (a4.block k hkl)⟩⟩
 |true=>
  obtain⟨H',a1,a2,a3,a4,a5,a6⟩:=h;exact⟨Q,Sh,T,H',R,p,x,a1.keep hk fun k e=>(by have e:=e;subst e;exact⟨hb.1,hb.2.1,hb.2.2.1,hb.2.2.2.1,hb.2.2.2.2.1⟩),a2.keep hk fun k hT e=>hb.2.2.2.2.2 (e▸hT),hs,⟨hb.2.1,hb.2.2.2.2.2,hb.2.2.1⟩,a3,a4,a5,by omega⟩
theorem Qq(l:List Rc)(r:Rc):(lK l r).length<=l.length+1:=by
 unfold lK
 split
 .split
  .simp
  .simp
 .simp
theorem Bg:∀(p l:List Rc),(p.foldl lK l).length<=l.length+p.length
 | [],l=>by simp
 |r::p,l=>by
  have h1:=Bg p (lK l r);have h2:=Qq l r;simp only[List.foldl_cons,cz];omega
theorem Qr(w:aq)(N:Nat)(hN:N<1000000):∃C:Array cq,(Instr.makeSlice 352 (.int .i64 (N:Nat)) (.int .i64 (N:Nat))).run ab w=.ok (.slice (some ⟨w.heap.size,0,none⟩) N N) (w.alloc (.cells C 279 (0,0)))∧C.toList=af N (.slice none 0 0):=by
 have hi:ab.info? 279=some bt:=rfl;have hz:bt.zero=some (.slice none 0 0):=rfl;have h:=run_make (P:=ab) w 352 279 bt (.slice none 0 0) underlying352 hi hz .i64 .i64 N N (by omega) (Int.le_refl _) (by rw[show(bt.bytes:Int)=24 from rfl];omega) (by omega);refine⟨_,h,?_⟩;have:bt.size=1:=rfl;rw[this];simp[madeCells,Value.cells,Nat.mod_one];exact List.eq_replicate_iff.2 ⟨by simp,fun u hu=>by simp at hu;exact hu.2.symm⟩
theorem UM{zs:List (List Rc)}(hv:Zd w.heap.size w v zs)(hN:0<zs.length)(hl:zs.flatten.length<1000)(hN2:zs.length<1000):
 ca ab 248 #[v,.int .i64 2] w fun e w'=>∃v',e=.returned (.tuple #[v',.int .i64 0])∧∃s,w'.ownsRow w.heap.size 283 2 v' (s.foldl lK []).length (recs (s.foldl lK []))∧s.Perm zs.flatten∧wZ s∧Below w.heap.size w w':=by
 obtain⟨gl,ol,c,vs,rfl,hgl,hvl,Xi,hvr⟩:=hv;have HV:=Y3 hvl Xi hvr;clear hvl Xi hvr;generalize hNn:zs.length=N at*;have HN:=Y1 hNn;clear hNn;obtain⟨C,hmk,hC⟩:=Qr w N (by omega);have HC:=Y1 hC;clear hC;go_enter func248,ntmps248
 go_wp2_with (first|(go_at_call 264;refine(JJ _ 2 (by decide)).mono ?_;rintro e w ⟨rfl,rfl⟩)|fail)
 obtain⟨G,hG⟩:=ex w.heap.size
 obtain⟨W0,hW0⟩:∃W0,W0=((w.alloc (.cells C 279 (0,0))).alloc (.cells #[.slice (some ⟨w.heap.size,0,none⟩) N N] 352 (0,0))).alloc (.cells #[.slice none 0 0] 380 (0,0)):=⟨_,rfl⟩
 rw[<-hW0];have UN:MgA w W0 (w.heap.size+1) w.heap.size (w.heap.size+1+1) N zs 0:=by
  have s1:St (w.alloc (.cells C 279 (0,0))) w.heap.size 279 (af N (.slice none 0 0)):=by
   have:=St.new w 279 C;rwa [HC.out]at this
  have s2:St ((w.alloc (.cells C 279 (0,0))).alloc (.cells #[.slice (some ⟨w.heap.size,0,none⟩) N N] 352 (0,0))) (w.heap.size+1) 352 [.slice (some ⟨w.heap.size,0,none⟩) N N]:=by
   simpa using St.new (w.alloc (.cells C 279 (0,0))) 352 #[.slice (some ⟨w.heap.size,0,none⟩) N N]
  have s3:St W0 (w.heap.size+1+1) 380 [.slice none 0 0]:=by
   rw[hW0];simpa using St.new ((w.alloc (.cells C 279 (0,0))).alloc (.cells #[.slice (some ⟨w.heap.size,0,none⟩) N N] 352 (0,0))) 380 #[.slice none 0 0]
  have hsz:W0.heap.size=w.heap.size+3:=by rw[hW0];simp
  have hrep:∀i r,(af N ([]:List Rc))[i]? =some r->r=[]:=fun i r hr=>ai (aw hr)
  have hfl:(af N ([]:List Rc)).flatten=[]:=by simp
  refine⟨fun _=>False,fun k=>k=w.heap.size+1+1,[],af N [],⟨?_,?_,fun j _ h=>absurd h (by simp),?_,?_,fun _ h=>h.elim,by omega,by omega,bk _⟩,⟨?_,an,fun r hr=>?_,fun i r hr y hy=>?_,fun z hz=>by cases hz⟩,fun h hh=>(by cases hh),fun j _ hj=>by rw[List.getElem?_replicate,if_pos hj]⟩
  .refine⟨af N (.slice none 0 0),by rw[hW0];exact s2.alloc _,by rw[hW0];exact(s1.alloc _).alloc _,by simp,by simp,fun i u r hu hr=>?_⟩;have h1:=ai (aw hu);have h2:=hrep i r hr;subst h1 h2;exact⟨none,0,rfl,bk _,fun _=>rfl,fun a e=>by cases e⟩
  .exact⟨_,s3,cx _ _ 383 3,rfl,fun k e=>(by cases e),fun k e=>(by have e:k=w.heap.size+1+1:=e;omega)⟩
  .rw[hW0];exact(((Below.refl _ w).alloc (bk _) _).alloc (by simp) _).alloc (by simp;omega) _
  .intro k e;have e:=e;exact⟨by omega,by omega,by omega,id⟩
  .simp[hfl]
  .rw[ai hr];exact an
  .rw[hrep i r hr]at hy;cases hy
 have HA0:=Y1 UN;clear UN hW0 hmk
 go_loopg [23] N (fun kq v23 wr=>∃k:Nat,kq+k=N∧v23=.int .i64 (k:Nat)∧aG (MgA w wr (w.heap.size+1) w.heap.size (w.heap.size+1+1) N zs k))
 case atStart=>exact⟨0,by omega,rfl,HA0⟩
 case round=>
  obtain⟨k,hk,rfl,hA⟩:=hrel;by_cases hlt:k<N
  .have hlt':(k:Int)<N:=by omega
   obtain⟨Q,Sh,H,R,hM,Qs,lN,CZ⟩:=hA.out;have acV:=Y1 lN;clear lN;obtain⟨hvl,Xi,hvr⟩:=HV.out;obtain⟨u,hu⟩:∃u,vs[k]? =some u:=⟨_,ae (by omega)⟩
   obtain⟨z,hz⟩:∃z,zs[k]? =some z:=⟨_,ae (by have:=HN.out;omega)⟩
   have hRu:=hvr k u z hu hz;have cu:=(hM.below.cell (p:=⟨gl,ol+k,none⟩) hgl).trans (Xi k u hu);obtain⟨A,cap,rfl⟩:∃A cap,u=.slice A z.length cap:=by obtain⟨A,cap,e,_⟩:=hRu;exact⟨A,cap,e⟩
   have q1:∀w',Below wr.heap.size wr w'->w'.cell? ⟨w.heap.size+1,0,none⟩=some (.slice (some ⟨w.heap.size,0,none⟩) N N):=fun w' hb=>(hb.cell (p:=⟨w.heap.size+1,0,none⟩) (al wr ⟨w.heap.size+1,0,none⟩ hM.at_.1)).trans hM.at_.1
   have HQ:=Y6 q1 hRu hz hM Qs CZ;have hzl:z.length<1000000:=by
    have h1:z.length<=zs.flatten.length:=by
     have:=List.Sublist.length_le (List.sublist_flatten_of_mem (aw hz));exact this
    omega
   clear q1 hRu hz hM Qs CZ hvl Xi hvr hu
   go_wp2_with fail
   refine gF (Below wr.heap.size wr) [1,2] [0] [3,4] [] [5,6] (by kernel_rfl) (fun _ _ x _ _ h=>by cases x<;>exact h) ((Below.refl _ wr).drew) (by kernel_rfl) ?_;simp only[aJ,List.filterMap_cons,List.filterMap_nil,List.getElem?_cons_succ,List.getElem?_cons_zero]
   repeat (refine aI (fun K hK=>?_);go_simp;refine hK _ ?_;clear hK K)
   refine au ?_;refine ak (fun K hK=>?_);go_simp;refine⟨.slice (some ⟨w.heap.size,0,none⟩) N N,fun w' hw'=>(by rw[HQ.out.1 w' hw'];rfl),hK _ ?_⟩;clear hK K;refine bD ?_;intro V hb0;have HB0:=Y1 hb0;clear hb0;refine aH (fun K hK=>?_);go_simp;refine(J5 V _ ⟨_,_,_,rfl⟩).mono ?_;rintro e V1 ⟨rfl,hV1⟩;have hb1:Below wr.heap.size wr V1:=by rw[hV1];exact HB0.out.alloc HB0.out.size _
   refine hK _ _ hb1 ?_;clear hK K;have t1:St V1 V.heap.size 279 [.slice A z.length cap]:=by rw[hV1];exact St.new _ _ _
   have H1:=Y3 hb1 hV1 t1;clear hb1 hV1 t1;refine aH (fun K hK=>?_);go_simp;have hRV:jD V1.heap.size V1 (.slice A z.length cap) z:=by
    have h1:=HQ.out.2.2.2.1.below.trans (H1.out.1.mono HQ.out.2.2.2.1.below.size);obtain⟨A',c',e,p1,p2⟩:=HQ.out.2.1.below h1;exact⟨A',c',e,p1,fun a ha=>⟨aa (p2 a ha).1 h1.size,(p2 a ha).2⟩⟩
   refine(Bf hzl H1.out.2.2.lt (H1.out.2.2.cell 0 rfl) hRV).mono ?_;rintro e V2 ⟨v,s,rfl,hso,hsp,hss,hb2⟩;have hb2':=H1.out.1.trans (hb2.mono H1.out.1.size);refine hK _ _ hb2' ?_;clear hK K;refine aQ (au ?_);obtain⟨A2,c2,rfl⟩:=aW hso;obtain⟨hRu,hz,hM,Qs,CZ⟩:=HQ.out.2;have hsl:=hsp.length_eq.symm;obtain⟨Q',hM2⟩:=hM.put hb2' (iM (by rw[hsl]at hso;exact hso) H1.out.1.size) hlt;have Qt:=Qs.add (CZ k (bk _) hlt) hss hsp;have hgc:∃u,V2.cell? ⟨w.heap.size,k,none⟩=some u:=by
    obtain⟨u,hu⟩:=(hM.at_.2 k hlt).1;exact⟨u,(hb2'.cell (p:=⟨w.heap.size,k,none⟩) (al wr ⟨w.heap.size,k,none⟩ hu)).trans hu⟩
   obtain⟨u,hgc⟩:=hgc;have hgf:V2.frozen? ⟨w.heap.size,k,none⟩=false:=by
    have h1:=(hM.at_.2 k hlt).2;obtain⟨u',hu'⟩:=(hM.at_.2 k hlt).1;have h2:=al wr ⟨w.heap.size,k,none⟩ hu';unfold World.frozen? at h1⊢;rw[hb2'.block _ h2];exact h1
   have HM2:=Y4 hM2 Qt CZ hz;have HSL:=Y1 hsl;clear hRu hz hM Qs CZ hM2 Qt hsl hso hsp hss hb2 hb2' H1 HB0 hRV cu
   go_wp2_with fail
   obtain⟨hM2,Qt,CZ,hz⟩:=HM2.out;rw[HSL.out];have acW:k<R.length:=by obtain⟨_,_,_,_,q,_⟩:=hM2.rest;rw[List.length_set]at q;omega
   have hsh:=hM2.sh;refine(J7 hM2.rest (List.getElem?_set_self acW) hM2.heap hM2.hp (all:=(zs.take k).flatten++z) (p:=[]) ?_ Qt (fun h=>(hsh _ h).2.1 rfl) (fun h=>(hsh _ h).2.2.1 rfl) (fun j hj=>⟨fun h=>(hsh j h).2.2.2 hj,(hM2.q j hj).2.2.1⟩) hM2.ne).mono ?_
   .have h1:(zs.take k).flatten++z=(zs.take (k+1)).flatten:=by rw[cy,hz];simp
    rw[h1];have h2:=congrArg (fun l=>l.flatten.length) (List.take_append_drop (k+1) zs);simp only[List.flatten_append,List.length_append]at h2;omega
   rintro e w4 ⟨rfl,Sh',H',R',n1,n2,n3,n4,n5,n6,n7,n8⟩;have HX:=Y1 (show MgA w w4 (w.heap.size+1) w.heap.size (w.heap.size+1+1) N zs (k+1)from
    ⟨Q',Sh',H',R',hM2.next n1 n2 n3 n6 n7,by rw[cy,hz];simpa using n4,fun h hh=>(n8 h hh).elim (acV.out h) (fun e=>by omega),fun j hj hjN=>by rw[n5 j (by omega),ar (by omega)];exact CZ j (by omega) hjN⟩)
   clear hM2 Qt CZ hz acW hsh n1 n2 n3 n4 n5 n6 n7 n8 hgc hgf
   go_wp2
   obtain⟨k1,rfl⟩:∃k1,gk=k1+1:=⟨gk-1,by omega⟩
   go_roundg k1
   case measure=>omega
   case rel=>exact⟨k+1,by omega,by simp,HX⟩
  .have hkn:k=N:=by omega
   have hAk:MgA w wr (w.heap.size+1) w.heap.size (w.heap.size+1+1) N zs N:=by have h:=hA.out;rwa [hkn]at h
   have HAk:=Y1 hAk;have hlt':¬(k:Int)<N:=by omega
   clear hAk hA
   go_wp2_with fail
   obtain⟨all,hall⟩:=ex zs.flatten
   obtain⟨bf,hbf⟩:=ex wr.heap.size
   rw[<-hbf];obtain⟨X,hX⟩:=ex (wr.alloc (.cells #[.int .i64 2,.slice none 0 0] 391 (0,0)))
   rw[<-hX];have hstart:∃Q Sh T H R,CY w X (w.heap.size+1) w.heap.size (w.heap.size+1+1) N Q Sh H R∧Mg all [] H R∧(∀h∈H,h.2<N)∧Sc w X bf (w.heap.size+1) w.heap.size T Sh Q []:=by
    obtain⟨Q,Sh,H,R,hM,Qs,lN,-⟩:=HAk.out;have hsz:wr.heap.size<=X.heap.size:=by rw[hX];simp
    have hkX:Keeps (fun _=>False) wr X:=by rw[hX];exact(Keeps.refl _ wr).alloc _
    have t1:St X bf 391 [.int .i64 2,.slice none 0 0]:=by rw[hX,hbf];exact St.new _ _ _
    have UO:∀j,Sh j->j<wr.heap.size:=by obtain⟨_,_,_,_,_,q⟩:=hM.heap;exact q
    have hgl:w.heap.size<wr.heap.size:=by obtain⟨vs,_,q,_⟩:=hM.rest;exact q.lt
    have hbl:w.heap.size+1<wr.heap.size:=by obtain⟨vs,q,_⟩:=hM.rest;exact q.lt
    refine⟨Q,Sh,fun k=>k=bf,H,R,hM.keep hkX fun _ h=>h.elim,?_,lN,⟨⟨_,t1,cx _ _ 283 2,rfl,fun k e=>(by cases e),fun k e=>(by have e:k=bf:=e;subst e;exact t1.lt)⟩,fun k e=>?_⟩⟩
    .have hz:zs.take N=zs:=List.take_of_length_le (by have:=HN.out;omega);rw[hz]at Qs;rw[hall];exact Qs
    .have e:=e;rw[hbf]at e;exact⟨by omega,fun h=>by have:=UO k h;omega,by omega,by omega,fun h=>by have:=(hM.q k h).2.2.2;omega⟩
   have Qu:all.length<1000:=by rw[hall];exact hl
   have afY:=Y1 hall;have HST:=Y1 hstart;clear hstart hX hbf hall HAk;obtain⟨Q,Sh,T,H,R,hM,Qs,lN,hF⟩:=HST.out;refine(Qp hM Qs lN hF Qu).mono ?_;rintro e X1 ⟨x,t,rfl,hkP,hP⟩;unfold hv3;have HX0:=Y1 (show Ze w (X1.alloc (.cells (hc TI x).toArray 383 (0,0))) (w.heap.size+1) w.heap.size (w.heap.size+1+1) bf N all X1.heap.size all.length t by
    have hM1:w.heap.size<=X1.heap.size∧w.heap.size<X1.heap.size∧w.heap.size+1<X1.heap.size∧(∀k,Sh k->k<X1.heap.size)∧(∀k,Q k->k<X1.heap.size)∧∀k,T k->k<X1.heap.size:=by
     have h0:=hkP.size;have h1:=hM.below.size;have h2:w.heap.size<X.heap.size:=by obtain⟨vs,_,q,_⟩:=hM.rest;exact q.lt
     have h3:w.heap.size+1<X.heap.size:=by obtain⟨vs,q,_⟩:=hM.rest;exact q.lt
     have h4:∀k,Sh k->k<X.heap.size:=by obtain⟨_,_,_,_,_,q⟩:=hM.heap;exact q
     have h5:∀k,T k->k<X.heap.size:=by obtain⟨_,_,_,_,_,q⟩:=hF.fold;exact q
     exact⟨by omega,by omega,by omega,fun k hk=>by have:=h4 k hk;omega,fun k hk=>by have:=(hM.q k hk).2.2.2;omega,fun k hk=>by have:=h5 k hk;omega⟩
    obtain⟨m1,m2,m3,m4,m5,m6⟩:=hM1;exact Ze.mk (p:=[]) hP ((Keeps.refl _ X1).alloc _) (St.new _ _ _) ⟨m1,fun h=>by have:=m4 _ h;omega,by omega,by omega,fun h=>by have:=m5 _ h;omega,fun h=>by have:=m6 _ h;omega⟩)
   unfold hc at HX0;clear hM Qs lN hF hkP hP HST
   go_wp2_with fail
   go_loopg [12,13] all.length (fun kq v12 v13 wr=>∃(bx:Nat) (t:Bool),v12=.pointer (some ⟨bx,0,none⟩)∧v13=.bool t∧aG (Ze w wr (w.heap.size+1) w.heap.size (w.heap.size+1+1) bf N all bx kq t))
   case atStart=>exact⟨_,_,rfl,rfl,HX0⟩
   case round=>
    obtain⟨bx,t,rfl,rfl,hB⟩:=hrel;cases t with
    |false=>
     obtain⟨T,p,hF,hT,hS,hp,hb⟩:=hB.out;obtain⟨vf,hst,ho,CV,oV,iy⟩:=hF;obtain⟨A3,c3,rfl⟩:=aW ho;have c1:=hst.cell 1 rfl;have HZ:=Y6 ho oV hT hS hp hb;clear hst ho CV oV iy hT hS hp hb hB
     go_wp2
     obtain⟨ho,oV,hT,hS,hp,hb⟩:=HZ.out;rw[afY.out]at hp;refine bodyPost_ret (results_tmp2 rfl _ _ _) rfl ?_;exact⟨_,rfl,p,Qm ho fun k e=>hT k (oV k e),hp,hS,hb⟩
    |true=>
     obtain⟨Q,Sh,T,H,R,p,x,hM,hF,hx,hbx,Qt,Zf,lN,hkp⟩:=hB.out;have x0:=hx.cell 0 rfl;have x1:=hx.cell 1 rfl;have x2:=hx.cell 2 rfl;have Zg:=UA hF.fold (by have:=Bg p [];simp at this;omega) x.1;have HB:=Y8 hM hF hx hbx Qt Zf lN hkp;clear hM hF hx hbx Qt Zf lN hkp hB;unfold rg at Zg
     go_wp2_with fail
     refine Zg.mono ?_;rintro e w2 ⟨rfl,T2,hF2,hk2⟩;obtain⟨hM,hF,hx,hbx,Qt,Zf,lN,hkp⟩:=HB.out;have afZ:w.heap.size<wr.heap.size:=by obtain⟨vs,_,q,_⟩:=hM.rest;exact q.lt
     have af0:w.heap.size+1<wr.heap.size:=by obtain⟨vs,q,_⟩:=hM.rest;exact q.lt
     have UO:∀k,Sh k->k<wr.heap.size:=by obtain⟨_,_,_,_,_,q⟩:=hM.heap;exact q
     have af2:=hx.lt;have hM2:=hM.keep hk2.1 hF.sep;have yO:Sc w w2 bf (w.heap.size+1) w.heap.size T2 Sh Q ((p++[x.1]).foldl lK []):=⟨by rw[List.foldl_append];exact hF2,fun k hk=>(hk2.2 k hk).elim (hF.sep k) fun h=>⟨by omega,fun hh=>by have:=UO k hh;omega,by omega,by omega,fun hh=>by have:=(hM.q k hh).2.2.2;omega⟩⟩
     have hx2:=hx.keep hk2.1 hbx.2.1;have UQ:¬T2 bx:=fun h=>(hk2.2 bx h).elim hbx.2.1 fun h=>by omega
     have y0:=hx2.cell 0 rfl;have y1:=hx2.cell 1 rfl;have y2:=hx2.cell 2 rfl;obtain⟨s,hs⟩:∃s,R[x.2]? =some s:=⟨_,ae (by obtain⟨_,_,_,_,q,_⟩:=hM2.rest;omega)⟩
     have hNx:=J7 hM2.rest hs hM2.heap hM2.hp Qu Qt (fun h=>(hM2.sh _ h).2.1 rfl) (fun h=>(hM2.sh _ h).2.2.1 rfl) (fun j hj=>⟨fun h=>(hM2.sh j h).2.2.2 hj,(hM2.q j hj).2.2.1⟩) hM2.ne;have R9:=Y8 hM2 yO hx2 UQ hbx Zf lN hkp;clear hM hF hx hbx Qt Zf lN hkp afZ af0 UO af2 hM2 yO hx2 UQ hF2 hk2 x0 x1 x2 Zg hs
     go_wp2_with fail
     refine hNx.mono ?_;rintro e w3 ⟨rfl,Sh3,H3,R3,n1,n2,n3,n4,n5,n6,n7,n8⟩;obtain⟨hM2,yO,hx2,UQ,hbx,Zf,lN,hkp⟩:=R9.out;have acX:∀k,T2 k->k<w2.heap.size:=by obtain⟨_,_,_,_,_,q⟩:=yO.fold;exact q
     have Dx:=hM2.next n1 n2 n3 n6 n7;have hF3:Sc w w3 bf (w.heap.size+1) w.heap.size T2 Sh3 Q ((p++[x.1]).foldl lK []):=⟨yO.fold.keep n6 fun k hk h=>h.elim (yO.sep k hk).2.1 (yO.sep k hk).2.2.1,fun k hk=>⟨(yO.sep k hk).1,fun h=>(n7 k h).elim (yO.sep k hk).2.1 fun h=>by have:=acX k hk;omega,(yO.sep k hk).2.2⟩⟩
     have hx3:=hx2.keep n6 fun h=>h.elim hbx.1 hbx.2.2
     have LK:=fun h hh=>(n8 h hh).elim (lN h) fun e=>by omega
     have z0:=hx3.cell 0 rfl;have z1:=hx3.cell 1 rfl;have z2:=hx3.cell 2 rfl;have Te:=Y5 Dx hF3 n4 LK hkp;clear hM2 yO hx2 UQ hbx Zf lN hkp n1 n2 n3 n4 n5 n6 n7 n8 acX Dx hF3 hx3 LK y0 y1 y2 hNx
     go_wp2_with fail
     obtain⟨Dx,hF3,hg3,LK,hkp⟩:=Te.out;have k4:=(Keeps.refl (fun _=>False) w3).alloc (.cells #[.int .u64 x.1.1,.int .u64 x.1.2,TI x.2] 383 (0,0));have Zh:=Dx.keep k4 fun _ h=>h.elim
     have hF4:=hF3.keep k4 fun _ _=>id
     refine(Qp Zh hg3 LK hF4 Qu).mono ?_;rintro e w5 ⟨x',t',rfl,hk5,hP5⟩;unfold hv3;have b5:St w5 w3.heap.size 383 [.int .u64 x.1.1,.int .u64 x.1.2,TI x.2]:=(St.new w3 383 #[.int .u64 x.1.1,.int .u64 x.1.2,TI x.2]).keep hk5 fun h=>by
      have:∀k,Sh3 k->k<w3.heap.size:=by obtain⟨_,_,_,_,_,q⟩:=Dx.heap;exact q
      have:=this _ h;omega
     have u0:=b5.cell 0 rfl;have u1:=b5.cell 1 rfl;have u2:=b5.cell 2 rfl;have v0:=b5.frozen 0;have v1:=b5.frozen 1;have v2:=b5.frozen 2;have HX5:=Y1 (show Ze w (((w5.setCell ⟨w3.heap.size,0,none⟩ (.int .u64 x'.1.1)).setCell ⟨w3.heap.size,1,none⟩ (.int .u64 x'.1.2)).setCell ⟨w3.heap.size,2,none⟩ (TI x'.2)) (w.heap.size+1) w.heap.size (w.heap.size+1+1) bf N all w3.heap.size (all.length-(p++[x.1]).length) t' by
      have h1:=Dx.below.size;have h2:w.heap.size<w3.heap.size:=by obtain⟨vs,_,q,_⟩:=Dx.rest;exact q.lt
      have h3:w.heap.size+1<w3.heap.size:=by obtain⟨vs,q,_⟩:=Dx.rest;exact q.lt
      have h4:∀k,Sh3 k->k<w3.heap.size:=by obtain⟨_,_,_,_,_,q⟩:=Dx.heap;exact q
      have h5:∀k,T2 k->k<w3.heap.size:=by obtain⟨_,_,_,_,_,q⟩:=hF3.fold;exact q
      exact Ze.mk hP5 ((((Keeps.refl (fun k=>k=w3.heap.size) w5).setCell (a:=⟨w3.heap.size,0,none⟩) (.inl rfl) _).setCell (a:=⟨w3.heap.size,1,none⟩) (.inl rfl) _).setCell (a:=⟨w3.heap.size,2,none⟩) (.inl rfl) _) (((b5.set 0 _).set 1 _).set 2 _)
       ⟨h1,fun h=>by have:=h4 _ h;omega,by omega,by omega,fun h=>by have:=(Dx.q _ h).2.2.2;omega,fun h=>by have:=h5 _ h;omega⟩)
     have hgk:all.length-(p++[x.1]).length<gk:=by
      have hlt:p.length<all.length:=by
       have h:=hg3.perm.length_eq;simp at h;omega
      simp;omega
     have HGK:=Y1 hgk;clear Dx hF3 hg3 LK hkp k4 Zh hF4 hk5 hP5 b5 z0 z1 z2 hgk
     go_wp2_with fail
     go_roundg (all.length-(p++[x.1]).length)
     case measure=>exact HGK.out
     case rel=>exact⟨_,_,rfl,rfl,HX5⟩
def lQ(i:Nat):List UInt8:=if i<10 then[UInt8.ofNat (48+i)]else[UInt8.ofNat (48+i/10),UInt8.ofNat (48+i%10)]
def itoa(i:Nat):ByteArray:=⟨(lQ i).toArray⟩
theorem J8(w:aq)(i:Nat)(hi:i<100):ca ab 110 #[.int .i64 (i:Nat)] w fun e w'=>e=.returned (.string (itoa i))∧w'=w:=by
 by_cases h10:i<10
 .have h1:(i:Int)<10:=by omega
  have hw:ba.wrap ((i:Int)+1)=(i:Int)+1:=by rw[ag];omega
  have h2:(i:Int)+1<=36:=by omega
  have h3:(0:Int)<=(i:Int)+1:=by omega
  have h4:(i:Int)<=(i:Int)+1:=by omega
  have h5:((i:Int)+1).toNat=i+1:=by omega
  go_enter cH,cE
  go_wp2_with fail
  refine bodyPost_ret (results_tmp rfl _ _ _) rfl ?_;refine⟨?_,rfl⟩;show az (a_ (ao _ i (i+1)))=az (a_ (itoa i));refine congrArg _ (congrArg _ ?_);refine(?_:∀i,i<10->ao ?L i (i+1)=itoa i) i h10;decide
 .have h1:¬(i:Int)<10:=by omega
  have hw:ba.wrap ((i:Int)*2)=(i:Int)*2:=by rw[ag];omega
  have hw2:ba.wrap ((i:Int)*2+2)=(i:Int)*2+2:=by rw[ag];omega
  have h2:(i:Int)*2+2<=200:=by omega
  have h3:(0:Int)<=(i:Int)*2+2:=by omega
  have h4:(i:Int)*2<=(i:Int)*2+2:=by omega
  have h4':(0:Int)<=(i:Int)*2:=by omega
  have h5:((i:Int)*2+2).toNat=i*2+2:=by omega
  have h6:((i:Int)*2).toNat=i*2:=by omega
  go_enter cH,cE
  go_wp2_with fail
  refine bodyPost_ret (results_tmp rfl _ _ _) rfl ?_;refine⟨?_,rfl⟩;show az (a_ (ao _ (i*2) (i*2+2)))=az (a_ (itoa i));refine congrArg _ (congrArg _ ?_);refine(?_:∀i,i<100->¬i<10->ao ?L2 (i*2) (i*2+2)=itoa i) i hi h10;decide
theorem EW(w:aq)(i:Nat)(hi:i<100):ca ab 92 #[.int .i64 (i:Nat),.int .i64 10] w fun e w'=>e=.returned (.string (itoa i))∧w'=w:=by
 have h1:(i:Int)<100:=by omega
 have hs:=J8 w i hi;generalize itoa i=t at hs⊢;go_enter func92,ntmps92
 go_wp2_with (first|(go_at_call 110;refine hs.mono ?_;rintro e w ⟨rfl,rfl⟩)|fail)
 go_ret;exact⟨rfl,rfl⟩
theorem qy(w:aq)(i:Nat)(hi:i<100):ca ab 61 #[.int .i64 (i:Nat)] w fun e w'=>e=.returned (.string (itoa i))∧w'=w:=by
 have hs:=EW w i hi;generalize itoa i=t at hs⊢;have h1:ca ab 74 #[.int .i64 (i:Nat)] w fun e w'=>e=.returned (.string t)∧w'=w:=by
  go_enter func74,ntmps74
  go_wp2_with (first|(go_at_call 92;refine hs.mono ?_;rintro e w ⟨rfl,rfl⟩)|fail)
  go_ret;exact⟨rfl,rfl⟩
 clear hs;go_enter func61,ntmps61
 go_wp2_with (first|(go_at_call 74;refine h1.mono ?_;rintro e w ⟨rfl,rfl⟩)|fail)
 go_ret;exact⟨rfl,rfl⟩
theorem C_(w:aq)(i:Nat)(hi:i<100):ca ab 189 #[.int .u64 (i:Nat),.int .i64 10] w fun e w'=>e=.returned (.string (itoa i))∧w'=w:=by
 have hs:=J8 w i hi;have h1:(i:Int)<100:=by omega
 have hw:ba.wrap (i:Int)=i:=by rw[ag];omega
 generalize itoa i=t at hs⊢;have h2:ca ab 220 #[.int .u64 (i:Nat),.int .i64 10] w fun e w'=>e=.returned (.string t)∧w'=w:=by
  go_enter func220,ntmps220
  go_wp2_with (first|(go_at_call 110;refine hs.mono ?_;rintro e w ⟨rfl,rfl⟩)|fail)
  go_ret;exact⟨rfl,rfl⟩
 clear hs;go_enter func189,ntmps189
 go_wp2_with (first|(go_at_call 220;refine h2.mono ?_;rintro e w ⟨rfl,rfl⟩)|fail)
 go_ret;exact⟨rfl,rfl⟩
theorem eT(a b:ByteArray):nm (a++b)=nm a++nm b:=by simp[nm]
def unL:List UInt8->Nat
 | [a]=>a.toNat-48
 | [a,b]=>(a.toNat-48)*10+(b.toNat-48)
 |_=>0
theorem EX:∀i,i<100->unL (lQ i)=i:=by decide
theorem qX{j:Nat}(hi:i<100)(hj:j<100)(h:lQ i=lQ j):i=j:=by
 have:=congrArg unL h;rwa [EX i hi,EX j hj]at this
theorem LP:∀i,i<100->1<=(lQ i).length∧(lQ i).length<=2:=by decide
theorem Bh(i:Nat):(itoa i).size=(lQ i).length:=by simp[itoa,ByteArray.size]
theorem yP:∀i,i<100->(lQ i).head? ≠some 110:=by decide
def strs(l:List ByteArray):List cq:=l.map a_
def Xn(b:Nat)(tp:ByteArray)(nx:Nat)(v:cq):List cq:=[.pointer (some ⟨b,0,none⟩),.string tp,.int .i64 4,.int .i64 0,.int .i64 nx,v]
def gq(w:aq)(T:Nat->Prop)(bs b:Nat)(tp:ByteArray)(nx:Nat)(l:List ByteArray):Prop:=
 ∃v,St w bs 304 (Xn b tp nx v)∧w.ownsRow 0 9 1 v l.length (strs l)∧T bs∧(∀k,v.ownBlock=some k->T k)∧∀k,T k->k<w.heap.size
theorem gq.keep{w w':aq}{S T:Nat->Prop}{bs b:Nat}{tp:ByteArray}{nx:Nat}{l:List ByteArray}(h:gq w T bs b tp nx l)(hk:Keeps S w w')(hS:∀k,T k->¬S k):gq w' T bs b tp nx l:=by
 obtain⟨v,h1,h2,h3,h4,h5⟩:=h;exact⟨v,h1.keep hk (hS _ h3),hk.own h2 fun k e=>hS k (h4 k e),h3,h4,fun k hk'=>aa (h5 k hk') hk.size⟩
def rn(tp:ByteArray)(k:Nat):ByteArray:=(tp++⟨#[46]⟩)++itoa k
theorem lu(a b:ByteArray)(h:a.size+b.size<=9223372036854775807)(w:aq):Sem.run ab (Op.stringOp .add a b) w=.ok (.string (a++b)) w:=run_string_add_sum w a b h
theorem nL(i:Nat)(hi:i<100):(itoa i).size<=2:=by rw[Bh];exact(LP i hi).2
theorem Qv{bs:Nat}{tp:ByteArray}{l:List ByteArray}(h:gq w T bs b tp nx l)(hn:nx+1<100)(ht:tp.size<1000):
 ca ab 237 #[.pointer (some ⟨bs,0,none⟩)] w fun e w'=>e=.returned (.string (rn tp (nx+1)))∧gq w' T bs b tp (nx+1) l∧Keeps T w w':=by
 obtain⟨v,hst,ho,hT,hv,Nl⟩:=h;have c1:=hst.cell 1 rfl;have c4:=hst.cell 4 rfl;have f4:=hst.frozen 4;have hw:ba.wrap ((nx:Int)+1)=(nx+1:Nat):=by rw[ag];omega
 have d_:St (w.setCell ⟨bs,4,none⟩ (.int .i64 (nx+1:Nat))) bs 304 (Xn b tp (nx+1) v):=hst.set 4 _;have d1:=d_.cell 1 rfl;have d4:=d_.cell 4 rfl;obtain⟨m,hm⟩:=ex (nx+1)
 rw[<-hm]at hw d1 d4 d_ hn⊢;have hiw:=qy;have HH:=Y4 hst ho d_ hm;clear hst ho d_ hm;unfold rn;go_enter func237,ntmps237
 go_wp2_with fail
 generalize hW1:w.setCell ⟨bs,4,none⟩ (.int .i64 (m:Nat))=W1 at*;have HW1:=Y1 hW1;clear hW1 c1 c4 f4;have e1:=lu tp ⟨#[46]⟩ (by have:(⟨#[46]⟩:ByteArray).size=1:=rfl;omega);have e2:=lu (tp++⟨#[46]⟩) (itoa m) (by have:=nL m hn;rw[ByteArray.size_append];have:(⟨#[46]⟩:ByteArray).size=1:=rfl;omega)
 go_quiet (first|(go_at_call 61;exact Calls.quiet_of_same (qy _ m hn)))
 go_wp2_with fail
 obtain⟨hst,ho,d_,hm⟩:=HH.out;go_ret;have hk:Keeps T w W1:=by rw[<-HW1.out];exact(Keeps.refl T w).setCell (a:=⟨bs,4,none⟩) (.inl hT) _
 refine⟨rfl,⟨v,d_,?_,hT,hv,fun k hk'=>aa (Nl k hk') hk.size⟩,hk.drewN nq⟩;show W1.ownsRow _ _ _ _ _ _;rw[<-HW1.out];exact b_ (p:=⟨bs,4,none⟩) ho (fun e=>hst.own_ne ho (by decide) _ e.symm rfl) _
def rF(F:Files)(c:Nat):Prop:=∃(L:List Nm) (G:Nm->List Int),L.Nodup∧c=bZ L G+L.length∧∀x,F x=if x∈L then some (G x)else none
variable {F F':Files}
theorem aV.cost{D:Nat->Prop}{room:Nat}(h:aV w D b room F c):rF F c:=by
 obtain⟨m,L,g,v,s,G,R,hc,hF⟩:=h;exact⟨L,G,R.mR,hc,hF⟩
theorem rF.unique(h:rF F c)(h':rF F c'):c=c':=by
 obtain⟨L,G,hn,rfl,hF⟩:=h;obtain⟨L',G',hn',rfl,hF'⟩:=h';have hm:∀x,x∈L↔x∈L':=fun x=>by
  have h1:=hF x;have h2:=hF' x;constructor
  .intro hx;rw[if_pos hx]at h1;refine Classical.byContradiction fun hx'=>?_
   rw[if_neg hx',h1]at h2;cases h2
  .intro hx;rw[if_pos hx]at h2;refine Classical.byContradiction fun hx'=>?_
   rw[if_neg hx',h2]at h1;cases h1
 have hp:=(List.perm_ext_iff_of_nodup hn hn').2 hm;have hg:=fun x hx=>by
  have h1:=hF x;have h2:=hF' x;rw[if_pos hx]at h1;rw[if_pos ((hm x).1 hx),h1]at h2;exact Option.some.inj h2
 have h1:bZ L G=bZ L G':=by
  unfold bZ;rw[bz fun x hx=>by rw[hg x hx]]
 have h2:bZ L G'=bZ L' G':=(hp.map _).sum_nat;rw[h1,h2,hp.length_eq]
theorem rF.put{x:Nm}{l:List Int}(h:rF F c)(hx:F x=none):rF (upd F x (some l)) (c+sec l.length+1):=by
 obtain⟨L,G,hn,rfl,hF⟩:=h;have nQ:=aV.NV hF hx;refine⟨x::L,upd G x l,List.nodup_cons.2 ⟨nQ,hn⟩,?_,fun y=>?_⟩
 .have:bZ L (upd G x l)=bZ L G:=by
   unfold bZ;refine congrArg _ (bz fun y hy=>?_);have hne:y≠x:=fun e=>by subst e;exact nQ hy
   rw[aM _ _ hne]
  have h2:bZ (x::L) (upd G x l)=sec l.length+bZ L (upd G x l):=by
   unfold bZ;rw[cF,cG,upd_same]
  rw[h2,this,cz];omega
 .by_cases e:y=x
  .subst e;rw[upd_same,if_pos (by simp),upd_same]
  .rw[aM _ _ e,aM _ _ e,hF];by_cases hy:y∈L
   .rw[if_pos hy,if_pos (by simp[hy])]
   .rw[if_neg hy,if_neg (by simp[hy,e])]
theorem rF.bound{x:Nm}{l:List Int}(h:rF F c)(hx:F x=none)(h':rF (upd F x (some l)) c'):c'=c+sec l.length+1:=h'.unique (h.put hx)
structure qY (nf:Nat->Nm) (F F':Files) (rs:List (Nat×List Rc)):Prop where
 other:∀x,(∀p∈rs,nf p.1≠x)->F' x=F x
 at_:∀p∈rs,F' (nf p.1)=some (fileOf p.2)
 mR:rs.Pairwise fun p q=>nf p.1≠nf q.1
theorem qY.nil(nf:Nat->Nm)(F:Files):qY nf F F []:=⟨fun _ _=>rfl,fun _ h=>(by cases h),an⟩
theorem qY.done{nf:Nat->Nm}(h:qY nf F F' []):F'=F:=funext fun x=>h.other x fun _ h=>by cases h
variable {rs:List (Nat×List Rc)}
theorem qY.add{nf:Nat->Nm}(h:qY nf F F' rs)(k:Nat)(l:List Rc)(hk:∀p∈rs,nf p.1≠nf k):qY nf F (upd F' (nf k) (some (fileOf l))) (rs++[(k,l)]):=by
 refine⟨fun x hx=>?_,fun p hp=>?_,?_⟩
 .rw[aM _ _ (Ne.symm (hx (k,l) (by simp)))];exact h.other x fun p hp=>hx p (by simp[hp])
 .rcases aE.1 hp with hp|hp
  .rw[aM _ _ (hk p hp)];exact h.at_ p hp
  .obtain rfl:p=(k,l):=by simpa using hp
   rw[upd_same]
 .rw[ax];exact⟨h.mR,by simp,fun p hp q hq=>by obtain rfl:q=(k,l):=(by simpa using hq);exact hk p hp⟩
theorem qY.drop{nf:Nat->Nm}{p:Nat×List Rc}{ts:List (Nat×List Rc)}(h:qY nf F F' (rs++p::ts))(hF:F (nf p.1)=none):qY nf F (upd F' (nf p.1) none) (rs++ts):=by
 have hn:=h.mR;rw[ax,List.pairwise_cons]at hn;refine⟨fun x hx=>?_,fun q hq=>?_,?_⟩
 .by_cases e:x=nf p.1
  .subst e;rw[upd_same,hF]
  .rw[aM _ _ e];refine h.other x fun q hq=>?_
   rcases aE.1 hq with hq|hq
   .exact hx q (by simp[hq])
   .rcases cD.1 hq with rfl|hq
    .exact Ne.symm e
    .exact hx q (by simp[hq])
 .have hne:nf q.1≠nf p.1:=by
   rcases aE.1 hq with hq|hq
   .exact hn.2.2 q hq p (by simp)
   .exact Ne.symm (hn.2.1.1 q hq)
  rw[aM _ _ hne];refine h.at_ q ?_;rcases aE.1 hq with hq|hq
  .simp[hq]
  .simp[hq]
 .rw[ax];exact⟨hn.1,hn.2.1.2,fun a ha b hb=>hn.2.2 a ha b (by simp[hb])⟩
def yQ(l:List Rc):Nat:=sec (fileOf l).length+1
theorem qY.cost{nf:Nat->Nm}{F:Files}{c:Nat}(hc:rF F c):∀(rs:List (Nat×List Rc)) (F':Files),qY nf F F' rs->(∀p∈rs,F (nf p.1)=none)->rF F' (c+(rs.map fun p=>yQ p.2).sum)
 | [],F',h,_=>by
  rw[h.done];exact hc
 |p::rs,F',h,hF=>by
  have h1:=qY.drop (rs:=[]) h (hF p (by simp));have ih:=qY.cost hc rs _ h1 fun q hq=>hF q (by simp[hq])
  have h2:=ih.put (x:=nf p.1) (l:=fileOf p.2) (by rw[upd_same]);rw[qH,uR (h.at_ p (by simp))]at h2;have e:c+((p::rs).map fun p=>yQ p.2).sum=c+(rs.map fun p=>yQ p.2).sum+sec (fileOf p.2).length+1:=by
   simp only[cF,cG,yQ];omega
  rw[e];exact h2
def Xo(b:Nat)(lU:ByteArray)(bF m nx:Nat)(v:cq):List cq:=[.pointer (some ⟨b,0,none⟩),.string lU,.int .i64 (bF:Nat),.int .i64 2,.map (some m),v,.int .i64 (nx:Nat)]
theorem wK.rlt{r cnt:Nat}{l:List Rc}(h:wK w m r M l cnt):r<w.heap.size:=by
 obtain⟨⟨D,q,left,h1,_⟩,_⟩:=h;exact h1.lt
theorem EY{bF:Nat}{lU:ByteArray}(hs:St w bx 316 (Xo b lU bF m nx v))(hM:lD w m M)(hl:M.length<1000):
 ca ab 246 #[.pointer (some ⟨bx,0,none⟩)] w fun e w'=>∃v',e=.returned v'∧∃l,w'.ownsRow w.heap.size 283 2 v' M.length (recs l)∧l.Perm M∧Below w.heap.size w w':=by
 have hlen:=hM.len 3;obtain⟨w1,hmk,ho1,hg1⟩:=run_make_own (P:=ab) w 0 279 283 cI _ 2 underlying279 EO EP rfl .i64 .i64 M.length (by rw[show cI.bytes=16 from rfl];omega) (by unfold maxLen;omega) (Nat.zero_le _);have k1:Keeps (fun _=>False) w w1:=(Keeps.refl _ w).grown hg1 fun m e=>by cases e
 obtain⟨w2,cnt,hrg,hR,hg2,hz2⟩:=(hM.keep k1 id).range;have c4:=hs.cell 4 rfl;have d4:=(hs.keep k1 id).cell 4 rfl;have k2:=k1.grown hg2 fun m e=>by cases e
 have h2:=Y1 (show ∃l,wK w2 m w1.heap.size M l cnt∧w2.ownsRow 0 283 2 (.slice (some ⟨w.heap.size,0,none⟩) 0 M.length) l.length (recs l)∧(∀k,cC (.slice (some ⟨w.heap.size,0,none⟩) 0 M.length)=some k->w.heap.size<=k∧k≠w1.heap.size)∧Keeps (fun _=>False) w w2 from
  ⟨[],hR,fq ho1 fun k hk=>hg2.block k (bJ ho1 k hk) (by simp),fun k e=>⟨by simp[cC]at e;omega,fun h=>by subst h;have:=bJ ho1 _ e;omega⟩,k2⟩)
 have hr0:=k1.size;have hm0:=hM.lt;have HM:=Y4 hM.mR hl hr0 hm0;clear hr0 hm0;generalize w1.heap.size=r at*;clear hs hM ho1 hg1 k1 hR hg2 hz2 k2 hl;go_enter func246,ntmps246
 go_wp2_with fail
 go_loopg [3] cnt (fun kq v3 wr=>aG (∃l,wK wr m r M l kq∧wr.ownsRow 0 283 2 v3 l.length (recs l)∧(∀k,v3.ownBlock=some k->w.heap.size<=k∧k≠r)∧Keeps (fun _=>False) w wr))
 case atStart=>exact h2
 case round=>
  obtain⟨l,hR,ho,hb,hk⟩:=hrel.out;rcases hR.next HM.out.1 0 with⟨hp,hnx⟩|⟨x,w3,cnt',hnx,LK,hlt,hg3,hz3,hen⟩
  .have hso:=ER (jD.own ho rfl fun k hk=>bJ ho k hk) (by have:=hp.length_eq;have:=HM.out.2.1;omega);have H3:=Y2 hp hk;clear hR ho hb hp hk
   go_wp2_with fail
   refine hso.mono ?_;clear hso;rintro e w4 ⟨v',rfl,l',ho,hp,hs,hb⟩;have H4:=Y3 ho hp hb;clear ho hp hs hb
   go_wp2_with fail
   go_ret;obtain⟨hp,hk⟩:=H3.out;obtain⟨ho,Zi,hb⟩:=H4.out;refine⟨_,rfl,l',?_,Zi.trans hp,(hk.trans (Keeps.of_below (S:=fun _=>False) hb) fun _ h=>.inl h).eG fun _ _ h=>h⟩;rw[<-hp.length_eq];exact own_base' ho hk.size
  .have k3:Keeps (fun k=>k=r) wr w3:=(Keeps.refl _ wr).grown hg3 fun k e=>.inl (by injection e with e;exact e.symm)
   have hob:∀k,u3.ownBlock=some k->¬k=r:=fun k e=>(hb k e).2
   have ho3:=k3.own ho hob;have hll:=tC l M hR.mR.nodup hR.sub;obtain⟨A,cp,rfl⟩:=aW ho3;obtain⟨v4,w4,hrun,XY,hk4,Xf⟩:=mH x ho3 (by have:=HM.out.2.1;omega);have uE:=LK.keep hk4 (fun e=>?_) (fun e=>hob _ e rfl)
   .have H4:=Y1 (show ∃l,wK w4 m r M l cnt'∧w4.ownsRow 0 283 2 v4 l.length (recs l)∧(∀k,v4.ownBlock=some k->w.heap.size<=k∧k≠r)∧Keeps (fun _=>False) w w4 from
     ⟨l++[x],uE,XY,fun k e=>(Xf k e).elim (hb k) fun h=>⟨bb hk.size (by omega),fun e=>by subst e;have:=LK.rlt;omega⟩,(hk.trans k3 fun i e=>.inr (by have:=HM.out.2.2.1;omega)).trans hk4 fun i e=>.inr (hb i e).1⟩)
    clear hR ho hb hk LK hg3 hz3 k3 hob ho3 XY hk4 Xf uE
    go_wp2_with (at_builtin;refine dh rfl _ _ 279 279 rfl (by simp[Act.eval]) (by simp[Act.eval]) hrun ?_;clear hrun)
    go_roundg cnt'
    case measure=>omega
    case rel=>exact H4
   .have:=(hb _ e).1;have:=HM.out.2.2.2;omega
end Go.Proofs.YtlhhcnknclnlaaaGreatDoor.Top
