/- Parts of the proof. -/
import Derived.Deep.LoopGhost
import Derived.Test.YtlhhcnknclnlaaaGreatDoorS04
import Derived.Test.YtlhhcnknclnlaaaGreatDoorS07
import Derived.Test.YtlhhcnknclnlaaaGreatDoorS08
set_option linter.all false
set_option maxRecDepth 100000
set_option maxHeartbeats 16000000
open Nat renaming lt_of_lt_of_le->aa,le_refl->af,le_trans->ax,mul_le_mul_right->cC,sub_self->cM,zero_le->cW,add_mul->di,mul_le_mul->dt,zero_add->dE,one_mul->eh
open Go.Proofs.Tryz renaming prog->ab,ntmps262->dy,f210->dC,func262->ef
open List renaming getElem?_eq_some_iff->ae,getElem?_eq_getElem->ai,mem_of_getElem?->an,getElem?_cons_succ->ao,getElem?_cons_zero->aq,getElem?_map->ar,length_append->aw,filterMap_cons->az,filterMap_nil->aE,getElem?_append_left->a_,length_filter_le->bj,append_assoc->bt,getElem?_append_right->bz,length_cons->ca,pairwise_iff_getElem->cd,take_of_length_le->cx,perm_append_comm->cy,mem_append->cD,length_map->cE,flatten_cons->cI,append_cancel_left->cJ,nil_append->cN,length_singleton->cU,mem_cons_of_mem->cY,length_pos_iff->c_,filter_append->da,nodup_append->dd,take_add_one->de,all_eq_true->df,length_take->dg,length_nil->dp,map_append->dq,mem_cons->du,map_cons->dv,mem_map->dT
open Array renaming getElem?_eq_some_iff->ag
open Go renaming World->al,Calls->bk,Value->cq,callsIn_wide->cF,Deferred->dr,TypeId->ek,Addr->eo
open Go.Builtin renaming append_->ba
open ByteArray renaming size_append->bb
open Classical renaming byContradiction->cm
open Go.RowKit.Below renaming refl->cz
open Go.IntKind renaming wrap_i64->cA,i64->cX,u64->dj
open Go.Act renaming eval->cG
open Go.World renaming ownsRow_nil->cH
open Go.Proofs.Tryz
namespace Go.Proofs.YtlhhcnknclnlaaaGreatDoor.Top
open Go Go.WideShapes Go.RowKit Go.Proofs.YtlhhcnknclnlaaaGreatDoor.iH Go.Proofs.YtlhhcnknclnlaaaGreatDoor.Oct Go.Proofs.ah.aN Go.Proofs.ah.bA
variable {k m nx:Nat}{v:cq}
theorem uG.step{E:Env}{W W':al}(h:W'.cell? ⟨k,0,none⟩=some v):uG W' k:=by
 unfold World.cell? at h
 split at h
 .rename_i c e f hb
  exact⟨_,_,_,hb⟩
 .cases h
theorem mJ.own{E:Env}{rs:List (Nat×List Rc)}{m nx N:Nat}{l:List Rc}{ds:List dr}{pre:List (Fin m)}{W W':al}{row:Option Nat}(h:mJ E rs m nx l ds pre W)(hg:W.grownBy W' row)(hN:E.B<=N)(hr:∀r,row=some r->N<=r∧∃o:Obj,W.heap[r]? =some o∧o.isCells=false)(hw1:E.w1.heap.size<=E.B)(hgn:uG W E.gn)(hds:∀d∈ds,∀D,d.target=.collected D->D<N):mJ E rs m nx l ds pre W'∧uG W' E.gn:=by
 obtain⟨outs,hc,h1,h2,h3,hm⟩:=h;have at0:∀k o,W.heap[k]? =some o->(row≠some k)->W'.heap[k]? =some o:=fun k o h hne=>(hg.block k (ag.1 h).1 (fun e=>hne e.symm)).trans h
 refine⟨⟨outs,hc.own (lW _ _ _ _) hg (fun r e=>⟨ax hN (hr r e).1,(hr r e).2⟩) hw1 hgn,h1,h2,h3,fun d hd=>?_⟩,?_⟩
 .obtain⟨D,q1,q2⟩:=hm d hd;exact⟨D,q1,at0 _ _ q2 fun e=>by have:=(hr D e).1;have:=hds d hd D q1;omega⟩
 .obtain⟨cs,t,fr,q⟩:=hgn;refine⟨cs,t,fr,at0 _ _ q fun e=>?_⟩;obtain⟨_,o,q2,q3⟩:=hr _ e;rw[q]at q2;cases q2;cases q3
theorem U0(rs:List (Nat×List Rc))(tp:ByteArray)(j k:Nat)(h:(rs.map (·.1))[j]? =some k):(strs (rs.map fun p=>rn tp p.1))[j]? =some (.string (rn tp k)):=by
 rw[ar]at h;cases hp:rs[j]? with
 |none=>rw[hp]at h;cases h
 |some p=>
  rw[hp]at h;cases h;simp[strs,hp]
variable {ds:List dr}{outs rs:List (Nat×List Rc)}{tp:ByteArray}
theorem mJ.start{W1 wr:al}{Z D' T' X':Nat->Prop}{bs b room c' gn cp:Nat}{F F':Files}{l:List Rc}(hD:aV wr D' b room F' c')(hS:fT wr T' bs b tp nx)(hv:wr.ownsRow 0 9 1 (.slice (some ⟨gn,0,none⟩) rs.length cp) rs.length (strs (rs.map fun p=>rn tp p.1)))(hg:X' gn)(hI:qY (nf tp) F F' rs)(z1:∀k,T' k->¬D' k)(z2:∀k,X' k->¬D' k∧¬T' k)(hz:∀k,D' k∨T' k∨X' k->Zt W1.heap.size wr k∧(Z k∨W1.heap.size<=k))(hk:Keeps Z W1 wr)(hp:(rs.flatMap (·.2)).Perm l)(hm:Marks wr ds)(hb:b<W1.heap.size)(hge:rs.length<=4*m):
 ∃WB,WB=((wr.alloc (.cells #[.slice none 0 0] 86 (0,0))).alloc (.cells #[.slice (some ⟨gn,0,none⟩) rs.length cp] 86)).alloc (.cells #[.int .i64 4] 3)∧WB.heap.size=wr.heap.size+3∧
  mJ {w1:=W1,Z:=Z,B:=W1.heap.size,bs:=bs,b:=b,room:=room,b12:=wr.heap.size,gn:=gn,bS:=wr.heap.size+1,bN:=wr.heap.size+2,tp:=tp,F:=F,ks:=rs.map (·.1)} rs m nx l ds [] WB∧
  WB.cell? ⟨wr.heap.size+1,0,none⟩=some (.slice (some ⟨gn,0,none⟩) rs.length cp)∧WB.cell? ⟨wr.heap.size+1+1,0,none⟩=some (.int .i64 4):=by
 have k0:Keeps (fun _=>False) wr (((wr.alloc (.cells #[.slice none 0 0] 86 (0,0))).alloc (.cells #[.slice (some ⟨gn,0,none⟩) rs.length cp] 86)).alloc (.cells #[.int .i64 4] 3)):=(((Keeps.refl _ wr).alloc _).alloc _).alloc _;have sb:St (((wr.alloc (.cells #[.slice none 0 0] 86 (0,0))).alloc (.cells #[.slice (some ⟨gn,0,none⟩) rs.length cp] 86)).alloc (.cells #[.int .i64 4] 3)) wr.heap.size 86 [.slice none 0 0]:=((St.new wr 86 #[.slice none 0 0]).alloc _).alloc _;have sS:St (((wr.alloc (.cells #[.slice none 0 0] 86 (0,0))).alloc (.cells #[.slice (some ⟨gn,0,none⟩) rs.length cp] 86)).alloc (.cells #[.int .i64 4] 3)) (wr.heap.size+1) 86 [.slice (some ⟨gn,0,none⟩) rs.length cp]:=by
  have:=(St.new (wr.alloc (.cells #[.slice none 0 0] 86 (0,0))) 86 #[.slice (some ⟨gn,0,none⟩) rs.length cp]).alloc (.cells #[.int .i64 4] 3 (0,0));simpa using this
 have sN:St (((wr.alloc (.cells #[.slice none 0 0] 86 (0,0))).alloc (.cells #[.slice (some ⟨gn,0,none⟩) rs.length cp] 86)).alloc (.cells #[.int .i64 4] 3)) (wr.heap.size+1+1) 3 [.int .i64 4]:=by
  have:=St.new ((wr.alloc (.cells #[.slice none 0 0] 86 (0,0))).alloc (.cells #[.slice (some ⟨gn,0,none⟩) rs.length cp] 86)) 3 #[.int .i64 4];simpa using this
 have hsz:(((wr.alloc (.cells #[.slice none 0 0] 86 (0,0))).alloc (.cells #[.slice (some ⟨gn,0,none⟩) rs.length cp] 86)).alloc (.cells #[.int .i64 4] 3)).heap.size=wr.heap.size+3:=by simp
 obtain⟨WB,hWB⟩:∃WB,WB=((wr.alloc (.cells #[.slice none 0 0] 86 (0,0))).alloc (.cells #[.slice (some ⟨gn,0,none⟩) rs.length cp] 86)).alloc (.cells #[.int .i64 4] 3):=⟨_,rfl⟩
 rw[<-hWB]at k0 sb sS sN hsz;refine⟨WB,hWB,hsz,⟨[],?_,rfl,fun p hp=>(by cases hp),by rw[E5 rs hge];simpa using hp,fun d hd=>?_⟩,sS.cell 0 rfl,sN.cell 0 rfl⟩
 .have hgl:=bJ hv gn rfl;have hw1:=hk.size;have hDl:∀k,D' k->k<wr.heap.size:=fun k h=>hD.lt h
  have iy:=(lW bs b tp nx).lt (w:=wr) (T:=T') hS;rw[E5 rs hge,List.append_nil];refine Core.make (lW _ _ _ _) (X':=fun k=>k=wr.heap.size) (hD.keep k0 fun _ _=>id) (fT.keep hS k0 fun _ _=>id) ⟨sb,cH _ _ 9 1,rfl,fun k e=>(by cases e)⟩ hI z1 (fun k h=>⟨fun h2=>?_,fun h2=>?_⟩) (fun k h=>?_) (hk.trans k0 fun _ h=>h.elim) (fun j k h=>?_) ⟨by dsimp only;omega,by dsimp only;omega,by dsimp only;omega,hb⟩
  .have:=hDl k h2;omega
  .have:=iy k h2;omega
  .rcases h with h|h|h
   .have:=hDl k h;exact⟨fun (e:k=gn)=>(z2 gn hg).1 (e▸h),by dsimp only;omega,by dsimp only;omega,(hz k (.inl h)).2⟩
   .have:=iy k h;exact⟨fun (e:k=gn)=>(z2 gn hg).2 (e▸h),by dsimp only;omega,by dsimp only;omega,(hz k (.inr (.inl h))).2⟩
   .exact⟨by dsimp only;omega,by dsimp only;omega,by dsimp only;omega,.inr (by dsimp only;omega)⟩
  .obtain⟨g,e,hc,_⟩:=dZ hv;cases e;rw[dE];exact k0.cell (a:=⟨gn,j,none⟩) (hc j _ (U0 rs tp j k h)) id
 .obtain⟨D,h1,h2⟩:=hm d hd;exact⟨D,h1,(k0.at_ (ag.1 h2).1 id).trans h2⟩
theorem yT{P:Program}(w:al)(base:Nat)(t ty e:ek)(i:TypeInfo)(z:cq)(size bytes:Nat)(ht:P.underlying t=some (.slice e))(hi:P.info? e=some i)(hz:i.zero=some z)(hsize:i.size=size)(hby:i.bytes=bytes)(hzs:z.cells.size=size)(hsz:0<size)(v:cq)(n:Nat)(xs:List cq)(hown:w.ownsRow base e size v n xs)(a:eo)(m c:Nat)(news:List cq)(hl:news.length=m*size)(hnews:∀j u,news[j]? =some u->w.cell? (a.add j)=some u)(h1:∀u∈news,u.oneCell'=true)(h63:n+m<=maxLen)(hbytes:(n+m)*bytes<=140737488355328)(hbase:base<=w.heap.size){v':cq}{w':al}(hr:(ba #[t,t] ty #[v,.slice (some a) m c]).run P w=.ok v' w')(ho':w'.ownsRow base e size v' (n+m) (xs++news)):w'.ownsRow base e size v n xs:=by
 rcases hown.2 with⟨rfl,rfl⟩|⟨g,cap,cur,rfl,hbg,hg,hnc,hcm,hcs,htake⟩
 .have hx:=List.eq_nil_of_length_eq_zero (by simpa using hown.1);subst hx;exact cH w' base e size
 .subst hsize;by_cases hroom:n+m<=cap
  .have hfit:n*i.size+news.length<=cur.size:=by rw[hl,hcs,<-di];exact cC _ hroom
   rw[run_append_room (P:=P) w t ty e i ht hi g n cap cur hg a m c news hl hnews h1 hroom hfit]at hr;injection hr with e1 e2;subst e1;rcases ho'.2 with⟨q,_⟩|⟨g',cap',cur',q,q2,q3,q4,q5,q6,q7⟩
   .cases q
   .injection q with q q1 q8;injection q with q;injection q with q;subst q q8;refine⟨hown.1,.inr ⟨g,cap,cur',rfl,hbg,q3,hnc,hcm,q6,?_⟩⟩;have hh:(cur'.toList.take ((n+m)*i.size)).take (n*i.size)=xs:=by rw[q7,List.take_append_of_le_length (by rw[hown.1];exact af _),cx (by rw[hown.1];exact af _)]
    rw[List.take_take]at hh;rwa [Nat.min_eq_left (cC _ (by omega))]at hh
  .have holds:=hown.cells (g:=g) rfl;subst hby
   have hsmall:n+m<=9223372036854775807:=by simp only[maxLen]at h63;omega
   rw[run_append_grow (P:=P) w t ty e i z ht hi hz ⟨g,0,none⟩ n cap xs hown.1 holds a m c news hl hnews (by omega) (by omega) (growslice_fits (by omega) hbytes)]at hr;injection hr with e1 e2;subst e2;exact(show w.drew.ownsRow base e i.size _ n xs from hown).alloc _
def IC(w3:al)(v:cq)(n:Nat)(l:List ByteArray)(W:al):Prop:=Keeps (fun k=>v.ownBlock=some k) w3 W∧W.ownsRow 0 9 1 v n (strs l)
theorem Fg{w:al}{l:List ByteArray}(s:ByteArray)(ho:w.ownsRow 0 9 1 v l.length (strs l))(hl:l.length<1000000):
 ∃a' cp' w',(ba #[86,86] 86 #[v,.slice (some ⟨w.heap.size,0,none⟩) 1 1]).run ab (w.alloc (.cells #[.string s] 9 (0,0)))=.ok (.slice (some a') (l.length+1) cp') w'∧
  w'.ownsRow 0 9 1 (.slice (some a') (l.length+1) cp') (l.length+1) (strs (l++[s]))∧IC w v l.length l w'∧(∀k,(Value.slice (some a') (l.length+1) cp').ownBlock=some k->v.ownBlock=some k∨w.heap.size<=k):=by
 obtain⟨v',w',h1,h2,h3,h4,a',cp',rfl⟩:=kN s ho hl;rw[aw,cU]at h2;have hnew:=St.new w 9 #[.string s];refine⟨a',cp',w',h1,h2,⟨h3,?_⟩,h4⟩;exact yT (P:=ab) (w.alloc (.cells #[.string s] 9 (0,0))) 0 86 86 9 Tryz.t9 (.string ⟨#[]⟩) 1 16 underlying86 Qw Qx rfl rfl rfl (by decide) v l.length (strs l) (ho.alloc _)
  ⟨w.heap.size,0,none⟩ 1 1 [.string s] rfl (fun j u hj=>by
   match j,hj with
   |0,hj=>cases hj;simp[Addr.add]) (fun u hu=>by simp at hu;subst hu;rfl) (by unfold maxLen;omega) (by omega) (cW _) h1 (by simpa[strs]using h2)
variable {E:Env}{W:al}
theorem Core.ac9{files box:List (Nat×List Rc)}(h:Core E (E8 E.bs E.b E.tp k) W files box)(hk:k<1000)(lU:ByteArray):
 ∃A cp l,l.length<1000∧IC W (.slice A l.length cp) l.length l W∧(∀W0,IC W (.slice A l.length cp) l.length l W0->W0.cell? ⟨E.bs,5,none⟩=some (.slice A l.length cp)∧Core E (E8 E.bs E.b E.tp k) W0 files box∧gT E W W0)∧
  (∀i,(Value.slice A l.length cp).ownBlock=some i->E.ok i∧i≠E.bs)∧
  ∀W0,IC W (.slice A l.length cp) l.length l W0->∃a' cp' w',(ba #[86,86] 86 #[.slice A l.length cp,.slice (some ⟨W0.heap.size,0,none⟩) 1 1]).run ab (W0.alloc (.cells #[.string lU] 9 (0,0)))=.ok (.slice (some a') (l.length+1) cp') w'∧
   IC W (.slice A l.length cp) l.length l w'∧(∃u,w'.cell? ⟨E.bs,5,none⟩=some u)∧w'.frozen? ⟨E.bs,5,none⟩=false∧Core E (pQ E.bs E.b E.tp k) (w'.setCell ⟨E.bs,5,none⟩ (.slice (some a') (l.length+1) cp')) files box∧gT E W (w'.setCell ⟨E.bs,5,none⟩ (.slice (some a') (l.length+1) cp')):=by
 obtain⟨⟨D',T',X',F',c',vb,⟨hD,hT,hX,wL⟩,hI,⟨z1,z2⟩,hz⟩,hkp,hn,hl⟩:=id h;obtain⟨l,h1,v,s1,s2,s3,s4,s5⟩:=hT;obtain⟨A,cp,rfl⟩:=aW s2;have hbs:=fun i hi=>s1.own_ne s2 (by decide) i hi
 have hok:=fun i hi=>hz i (.inr (.inl (s4 i hi)))
 have key:∀W0,IC W (.slice A l.length cp) l.length l W0->W0.cell? ⟨E.bs,5,none⟩=some (.slice A l.length cp)∧Core E (E8 E.bs E.b E.tp k) W0 files box∧gT E W W0:=fun W0 hW0=>by
  obtain⟨hK,ho⟩:=hW0;have t1:=s1.keep hK fun e=>hbs _ e rfl
  exact⟨t1.cell 5 rfl,Core.make (Dc _ _ _ _) (hD.keep hK fun k h h2=>z1 k (s4 k h2) h) ⟨l,h1,_,t1,ho,s3,s4,fun k hk'=>aa (s5 k hk') hK.size⟩ (hX.keep hK fun k h h2=>(z2 k h).2 (s4 k h2)) hI z1 z2 (fun k h=>(hz k h).2) (hkp.trans hK fun k h=>(hok k h).2.2.2.2) (fun j k h=>hK.cell (hn j k h) fun h=>(hok _ h).2.1 rfl) ⟨aa hl.1 hK.size,aa hl.2.1 hK.size,aa hl.2.2.1 hK.size,hl.2.2.2⟩,
   gT.of hK (fun k _ h=>hok k h) ⟨hl.2.1,hl.2.2.1⟩⟩
 refine⟨A,cp,l,by omega,⟨Keeps.refl _ _,s2⟩,key,fun i hi=>⟨(hok i hi).2,hbs i hi⟩,fun W0 hW0=>?_⟩;obtain⟨k1,k2,k3⟩:=key W0 hW0;obtain⟨a',cp',w',r1,r2,r3,r4⟩:=Fg lU hW0.2 (by omega);obtain⟨n2,A2,cp2,a2,ahT,w2,q1,q2,q3,q4,q5,q6⟩:=k2.made hk lU;rw[k1]at q1;injection q1 with q1;injection q1 with e1 e2 e3;subst e1 e2 e3;rw[r1]at q2;injection q2 with e4 e5;injection e4 with e4 _ e6;injection e4 with e4;subst e4 e5 e6;exact⟨a',cp',w',r1,⟨hW0.1.trans r3.1 fun k h=>.inl h,r3.2⟩,q3,q4,q5,k3.trans q6⟩
theorem Fh(x:Nat):∀j p,(fH rs x)[j]? =some p->(rs.map (·.1))[4*x+j]? =some p.1:=fun j p h=>by
 rw[ar,(Bp rs x j p h).2];rfl
theorem LX(hR:IB tp rs m nx)(x:Fin m):0<sG.part rs.length x.1∧4*x.1<rs.length:=by
 have:=hR.lt;have:=x.2;unfold sG.part;omega
theorem Fj{c0:Nat}{l:List Rc}{pre:List (Fin m)}{x:Fin m}(hR:IB E.tp rs m nx)(hks:E.ks=rs.map (·.1))(hN:iY E.tp E.F)(hc0:rF E.F c0)(hx:x∉pre)(hpre:pre.length<m)(hp:∀p∈outs,nx<p.1∧p.1<=nx+pre.length∧p.2≠[])(hl:((left rs m pre++outs).flatMap (·.2)).Perm l)(hw:∀r∈l,Wf r)(hll:l.length<=49)(hroom:c0+4*l.length+2<=E.room)(hc:c0<90000)(h:Core E (pQ E.bs E.b E.tp (nx+pre.length+1)) W (left rs m pre++outs) outs):
 bk ab 238 #[.pointer (some ⟨E.bs,0,none⟩),.slice (some ⟨E.gn,4*x.1,none⟩) (sG.part rs.length x.1) (sG.part rs.length x.1),.string (rn E.tp (nx+pre.length+1))] W fun e W'=>e=.returned (.int .i64 0)∧
  ∃zs,zs.Perm ((fH rs x.1).flatMap (·.2))∧Core E (pQ E.bs E.b E.tp (nx+pre.length+1)) W' (fH rs x.1++((left rs m (pre++[x])++outs)++[(nx+pre.length+1,zs)])) outs∧gT E W W':=by
 have hpf:=mJ.files (E:=E) (nx:=nx) (rs:=rs) (outs:=outs) x hx;have hlp:=(hpf.flatMap_right (·.2)).symm.trans hl;have hlen:=hlp.length_eq;have htop:=hR.top;have hin:∀p∈fH rs x.1++(left rs m (pre++[x])++outs),p∈rs∨p∈outs:=fun p hp'=>by
  rcases cD.1 hp' with h1|h1
  .exact .inl (rz h1)
  .rcases cD.1 h1 with h1|h1
   .obtain⟨j,_,h2⟩:=Fb h1;exact .inl (rz h2)
   .exact .inr h1
 refine(Core.merge (h.perm hpf) hN hc0 (by omega) (by omega) (fun p hp'=>?_) (fun p hp'=>?_) (fun p hp' y hy=>?_) (fun j p hj=>by rw[hks];exact Fh x.1 j p hj) (vD rs x.1) (by omega) (by rw[hlen];exact hroom) hc (by unfold sG.part;omega)).mono ?_
 .rcases hin p hp' with h1|h1
  .have:=hR.key p h1;omega
  .have:=hp p h1;omega
 .rcases hin p hp' with h1|h1
  .exact hR.full p h1
  .exact(hp p h1).2.2
 .refine hw y (hlp.subset ?_);exact List.mem_flatMap.2 ⟨p,by simp[hp'],hy⟩
 .rintro e W' ⟨rfl,zs,h1,h2,h3⟩;exact⟨rfl,zs,h1,by rw[bt]at h2;exact h2,h3⟩
theorem IE{pre:List (Fin m)}{rest:List (Nat×List Rc)}{x:Fin m}(hR:IB E.tp rs m nx)(hks:E.ks=rs.map (·.1))(hN:iY E.tp E.F)(hpre:pre.length<m)(h:Core E (pQ E.bs E.b E.tp (nx+pre.length+1)) W (fH rs x.1++rest) outs):
 bk ab 211 #[.pointer (some ⟨E.bs,0,none⟩),.slice (some ⟨E.gn,4*x.1,none⟩) (sG.part rs.length x.1) (sG.part rs.length x.1)] W fun e W'=>e=.returned (.int .i64 0)∧Core E (pQ E.bs E.b E.tp (nx+pre.length+1)) W' rest outs∧gT E W W':=by
 have htop:=hR.top;exact Core.gone h hN (by omega) (fun p hp'=>by have:=hR.key p (rz hp');omega) (fun j p hj=>by rw[hks];exact Fh x.1 j p hj) (vD rs x.1) (by unfold sG.part;omega)
theorem LY{pre:List (Fin m)}{x:Fin m}{lU:ByteArray}(hR:IB E.tp rs m nx)(hks:E.ks=rs.map (·.1))(hN:iY E.tp E.F)(hx:x∈pre)(hpre:pre.length<m)(hp:∀p∈outs,nx<p.1∧p.1<=nx+pre.length∧p.2≠[])(h:Core E (pQ E.bs E.b E.tp (nx+pre.length+1)) W (left rs m pre++outs) outs):
 bk ab 238 #[.pointer (some ⟨E.bs,0,none⟩),.slice (some ⟨E.gn,4*x.1,none⟩) (sG.part rs.length x.1) (sG.part rs.length x.1),.string lU] W fun e W'=>e=.returned (.int .i64 4)∧gT E W W'∧Keeps E.Z E.w1 W':=by
 obtain⟨⟨D',T',X',F',c',v,⟨hD,hT,hX,wL⟩,hI,⟨z1,z2⟩,hz⟩,hkp,hnm,hl⟩:=id h;obtain⟨a,cc,l,s1,s2,s3,s4,s5,s6,s7⟩:=id hT;obtain⟨hpos,hlt⟩:=LX hR x;have htop:=hR.top;obtain⟨p,hp0⟩:∃p,rs[4*x.1]? =some p:=⟨_,ai hlt⟩
 have hpk:=hR.key p (an hp0);have hcell:W.cell? ⟨E.gn,4*x.1,none⟩=some (.string (rn E.tp p.1)):=by
  have:=hnm (4*x.1) p.1 (by rw[hks,ar,hp0];rfl);rwa [dE]at this
 have hsz:=hN.size (j:=p.1) (by omega);have hF:F' (nf E.tp p.1)=none:=by
  rw[hI.other _ fun q hq e=>?_]
  .exact hN.none _ hpk.1 (by omega)
  .rcases cD.1 hq with hq|hq
   .obtain⟨j,hj,hqj⟩:=Fb hq;obtain⟨i,hi⟩:=List.getElem?_of_mem hqj;obtain⟨hi4,hi⟩:=Bp rs j.1 i q hi;have hne:4*j.1+i≠4*x.1:=fun e=>hj (by
     have:j=x:=Fin.ext (by omega);rw[this];exact hx)
    obtain⟨hi1,hi2⟩:=ae.1 hi;obtain⟨hp1,hp2⟩:=ae.1 hp0;rw[<-hi2,<-hp2]at e;rcases Nat.lt_or_gt_of_ne hne with hh|hh
    .exact cd.1 hR.mR _ _ hi1 hp1 hh e
    .exact cd.1 hR.mR _ _ hp1 hi1 hh e.symm
   .have:=hp q hq;have:=Iq (by omega) (by omega) e;omega
 refine(QH hD s1 (z1 _ s4) hcell ⟨hl.1,fun hd=>(hz _ (.inl hd)).2.1 rfl⟩ (by unfold maxLen;omega) hF hpos (by unfold sG.part;omega)).mono ?_;rintro e W' ⟨rfl,hK⟩;exact⟨rfl,gT.of hK (fun k _ h=>hz k (.inl h)) ⟨hl.2.1,hl.2.2.1⟩,hkp.trans hK fun k h=>(hz k (.inl h)).2.2.2.2⟩
theorem mJ.end_{D0:Nat}{l:List Rc}(h:mJ E rs m nx l ds (sG.come m m) W)(hB:E.B=E.w1.heap.size)(htop:nx+2*m<=98)(hnd:(ds.map (·.target)).Nodup)(hmd:∀d∈ds,∀D,d.target=.collected D->E.w1.heap.size<=D)(hD:W.heap[D0]? =some (.deferred (some [])))(hD0:E.w1.heap.size<=D0)(hdl:∀d∈ds,∀D,d.target=.collected D->D<D0):
 ∃A cp,W.cell? ⟨E.b12,0,none⟩=some (.slice A m cp)∧Fa E.w1 W E.Z E.bs E.b E.room E.tp E.F l m (.slice A m cp) ({target:=.collected D0,args:= #[]}::ds):=by
 obtain⟨outs,hc,ho,hp,hl,hm⟩:=h;rw[sG.jL (af m)]at hc ho hp;rw[QI,cN]at hc hl;obtain⟨⟨D',T',X',F',c',v,⟨hD',hT,hX,wL⟩,hI,⟨z1,z2⟩,hz⟩,hk,hn,hlt⟩:=hc;have hrow:=hX.own;rw[ho]at hrow;obtain⟨A,cp,rfl⟩:=aW hrow;refine⟨A,cp,hX.st.cell 0 rfl,D',T',fun k=>(Value.slice A m cp).ownBlock=some k,F',c',outs,nx+m,⟨hD',fU.LQ hT,by rw[ho];exact hrow,fun k e=>e⟩,hI,⟨z1,fun k h=>z2 k (hX.xo k h)⟩,fun k h=>?_,hk,⟨fun p h=>?_,fun p h=>(hp p h).2.2,hl,by omega,ho⟩,fun d hd=>?_,?_,fun d hd D e=>?_⟩
 .have h':=h.imp id fun h=>h.imp id fun h=>hX.xo k h
  rw[<-hB];exact⟨(hz k h').1,by rw[hB];exact(hz k h').2.2.2.2⟩
 .have:=hp p h;omega
 .rcases du.1 hd with rfl|hd
  .exact⟨D0,rfl,hD⟩
  .exact hm d hd
 .rw[dv,List.nodup_cons];refine⟨fun h=>?_,hnd⟩;obtain⟨d,h1,h2⟩:=dT.1 h;have:=hdl d h1 D0 h2;omega
 .rcases du.1 hd with rfl|hd
  .cases e;exact hD0
  .exact hmd d hd D e
section
attribute [local go_sem] Oper.semAt_some
variable {B b c2 n room:Nat}{W W' W1 w:al}
theorem uI{B':Nat}(h:KeepsFrom B W W')(hB:B<=B'):KeepsFrom B' W W':=⟨h.size,fun k o hk=>h.same k o (ax hB hk)⟩
def IG(E:Env)(rs:List (Nat×List Rc))(m nx:Nat)(pre:List (Fin m))(outs:List (Nat×List Rc))(x:Fin m)(W W':al):Prop:=
 ∃zs:List Rc,zs.Perm ((fH rs x.1).flatMap (·.2))∧Core E (pQ E.bs E.b E.tp (nx+pre.length+1)) W' (fH rs x.1++((left rs m (pre++[x])++outs)++[(nx+pre.length+1,zs)])) outs∧gT E W W'
theorem IG.keep{E:Env}{rs:List (Nat×List Rc)}{m nx:Nat}{pre:List (Fin m)}{outs:List (Nat×List Rc)}{x:Fin m}{W W':al}(h:IG E rs m nx pre outs x W W'):Keeps E.Z E.w1 W':=by
 obtain⟨zs,_,h,_⟩:=h;exact h.keep
theorem U1{E:Env}{b4:Nat}{Z:Nat->Prop}(h1:E.w1=W1)(h2:E.Z=Z)(hk:Keeps E.Z E.w1 W)(s8:St W1 (b4+1) 3 [.int .i64 0])(s9:St W1 (b4+1+1) 35 [.int .i64 0])(hZ:∀k,b4<=k->¬Z k):W.cell? ⟨b4+1,0,none⟩=some (.int .i64 0)∧W.frozen? ⟨b4+1,0,none⟩=false∧W.cell? ⟨b4+1+1,0,none⟩=some (.int .i64 0)∧W.frozen? ⟨b4+1+1,0,none⟩=false:=by
 rw[h1,h2]at hk;have t8:=s8.keep hk (hZ _ (by omega));have t9:=s9.keep hk (hZ _ (by omega));exact⟨t8.cell 0 rfl,t8.frozen 0,t9.cell 0 rfl,t9.frozen 0⟩
variable {P:Program}{Q:Exit->Act->al->Prop}{a:Act}
theorem Bq{w':al}{o:Oper}{K:Act->al->Prop}(s x:Operand)(t t':ek)(ho:o.op=.call {callee:=.builtin .append,args:= #[s,x],argTypes:= #[t,t']}){u1 u2 v:cq}(h1:a.eval s=u1)(h2:a.eval x=u2)(hr:(ba #[t,t'] o.type #[u1,u2]).run P w=.ok v w')(h:K (a.put o.dst v) w'):o.wp P a w K Q:=by
 unfold Oper.wp execOp;simp only[ho,resolve,invoke,builtin,Sem.run_bind,Sem.run_pure,Result.andThen_ok,List.map_toArray,dv,List.map_nil,h1,h2,hr];exact h
theorem U2{l:List Oper}(h:(l.all fun o=>match o.op with| .defer _=>false|_=>true)=true):∀(i:Nat) (o:Oper) (c:Call),l.toArray[i]? =some o->o.op≠.defer c:=fun i o c hi e=>by
 have h1:=an (by simpa using hi);have:=df.1 h o h1;rw[e]at this;cases this
theorem wpIn_cut{Fe:Fence}{c:Code}(fr:Act)(R:al->Prop)(h1:c.wpIn Fe n P (Exit.then (fun a' w'=>a'=fr∧R w') fun _ _ _=>False) a w)(h2:∀w',R w'->Q .normal fr w'):c.wpIn Fe n P Q a w:=
 wpIn_mono h1 fun e a' w' h=>by
  cases e with
  |normal=>
   obtain⟨rfl,h⟩:=h;exact h2 _ h
  |_=>exact h.elim
variable {D D2 T:Nat->Prop}{F:Files}{ds:List dr}{out:ByteArray}{p:Int}{tmps:Array cq}{zs:List Rc}
theorem U3{wf:al}{R:Nat->Prop}{l:List Rc}(k0:Keeps (fun _=>False) w W1)(hsz:W1.heap.size=w.heap.size+3)(hD:aV wf D2 b room (upd F (nm out) (some (fileOf zs))) c2)(hz:zs.Perm l)(hk:Keeps (fun k=>(D k∨T k∨R k)∨k=w.heap.size+1∨k=w.heap.size+1+1) W1 wf)(hD2:∀k,D2 k->(D k∨T k∨R k)∨W1.heap.size<=k)(c8:wf.cell? ⟨w.heap.size+1,0,none⟩=some (.int .i64 p))(c9:wf.cell? ⟨w.heap.size+1+1,0,none⟩=some (.int .i64 0))(hm:Marks wf ds)(hnd:(ds.map (·.target)).Nodup)(hmd:∀d∈ds,∀D,d.target=.collected D->W1.heap.size<=D)(hbl:b<w.heap.size)(t8:tmps.getD 8 undef=.pointer (some ⟨w.heap.size+1,0,none⟩))(t9:tmps.getD 9 undef=.pointer (some ⟨w.heap.size+1+1,0,none⟩)):QM dC (UZ w D T R b room F out l) .ret {tmps:=tmps,defers:=ds} wf:=by
 obtain⟨D0,d1,d2,d3⟩:=hD.shrink;refine uH ds wf hm hnd fun w' hk'=>⟨_,Iy rfl tmps w' _ _ _ _ t8 (hk'.cell c8 ?_) t9 (hk'.cell c9 ?_) ⟨.i64,rfl⟩ ⟨.i64,rfl⟩,p,rfl,D0,c2,zs,d1.keep hk' ?_,hz,?_,?_⟩
 .rintro⟨d,h1,h2⟩;have:=hmd d h1 _ h2;dsimp only at this;omega
 .rintro⟨d,h1,h2⟩;have:=hmd d h1 _ h2;dsimp only at this;omega
 .rintro k hk0 ⟨d,h1,h2⟩;have:=hmd d h1 _ h2;obtain⟨D3,h3,h4⟩:=hm d h1;rw[h2]at h3;cases h3;rcases d3 k hk0 with h|⟨cs,t,fr,h⟩
  .omega
  .rw[h4]at h;cases h
 .refine((k0.mono fun _ _ h=>h.elim).trans hk fun k h=>?_).trans hk' fun k h=>?_
  .rcases h with h|h
   .exact .inl h
   .exact .inr (by omega)
  .obtain⟨d,h1,h2⟩:=h;exact .inr (by have:=hmd d h1 _ h2;omega)
 .intro k h;exact(hD2 k (d2 k h)).imp id fun h=>by omega
theorem mK{S:Nat->Prop}(hm:Marks W ds)(hmd:∀d∈ds,∀D,d.target=.collected D->B<=D)(hk:Keeps S W W')(hS:∀k,S k->Zt B W k):Marks W' ds:=fun d hd=>by
 obtain⟨D,h1,h2⟩:=hm d hd;refine⟨D,h1,(hk.at_ (ag.1 h2).1 fun h=>?_).trans h2⟩;have:=hmd d hd D h1;rcases hS D h with h3|⟨cs,t,fr,h3⟩
 .omega
 .rw[h2]at h3;cases h3
theorem Fp{w5:al}{R:Nat->Prop}{l:List Rc}{x8 x9:Int}(k0:Keeps (fun _=>False) w W1)(hsz:W1.heap.size=w.heap.size+3)(hD:aV w5 D2 b room (upd F (nm out) (some (fileOf zs))) c2)(hz:zs.Perm l)(hk:Keeps (fun k=>D k∨T k∨R k) W1 w5)(hD2:∀k,D2 k->(D k∨T k∨R k)∨W1.heap.size<=k)(hnew:∀k,w.heap.size<=k->¬(D k∨T k∨R k))(s8:St w5 (w.heap.size+1) 3 [.int .i64 x8])(s9:St w5 (w.heap.size+1+1) 35 [.int .i64 x9])(hm:Marks w5 ds)(hnd:(ds.map (·.target)).Nodup)(hmd:∀d∈ds,∀D,d.target=.collected D->W1.heap.size<=D)(hbl:b<w.heap.size)(t8:tmps.getD 8 undef=.pointer (some ⟨w.heap.size+1,0,none⟩))(t9:tmps.getD 9 undef=.pointer (some ⟨w.heap.size+1+1,0,none⟩)):QM dC (UZ w D T R b room F out l) .ret {tmps:=tmps,defers:=ds} ((w5.setCell ⟨w.heap.size+1,0,none⟩ (.int .i64 p)).setCell ⟨w.heap.size+1+1,0,none⟩ (.int .i64 0)):=by
 have kS:Keeps (fun k=>k=w.heap.size+1∨k=w.heap.size+1+1) w5 ((w5.setCell ⟨w.heap.size+1,0,none⟩ (.int .i64 p)).setCell ⟨w.heap.size+1+1,0,none⟩ (.int .i64 0)):=((Keeps.refl (fun k=>k=w.heap.size+1∨k=w.heap.size+1+1) w5).setCell (a:=⟨w.heap.size+1,0,none⟩) (.inl (.inl rfl)) _).setCell (a:=⟨w.heap.size+1+1,0,none⟩) (.inl (.inr rfl)) _;have u8:=(s8.set 0 (.int .i64 p)).other (a:=⟨w.heap.size+1+1,0,none⟩) (by dsimp only;omega) (.int .i64 0);have u9:=(s9.other (a:=⟨w.heap.size+1,0,none⟩) (by dsimp only;omega) (.int .i64 p)).set 0 (.int .i64 0);refine U3 (D2:=D2) (p:=p) k0 hsz (hD.keep kS fun k h h2=>?_) hz ((hk.mono (S':=fun k=>(D k∨T k∨R k)∨k=w.heap.size+1∨k=w.heap.size+1+1) fun k _ h=>.inl h).trans kS fun k h=>.inl (.inr h)) hD2 (u8.cell 0 rfl) (u9.cell 0 rfl) (mK hm hmd kS fun k h=>.inl (by rcases h with rfl|rfl<;>omega)) hnd hmd hbl t8 t9
 .have:=hD2 k h;rcases this with h3|h3
  .exact hnew k (by rcases h2 with rfl|rfl<;>omega) h3
  .rcases h2 with rfl|rfl<;>omega
theorem QN{R:Nat->Prop}{bs br c bF:Nat}{tp s:ByteArray}{l:List Rc}(hD:aV w D b room F c)(hS:fU w T bs b tp 0)(iI:∀k,T k->¬D k)(hR:Reader w R br b s l false)(QE:∀k,R k->¬D k∧¬T k)(hN:iY tp F)(hs:s.size<=maxLen)(hx:F (nm s)=some (fileOf l))(hn:l.length=n)(hl2:l.length<=49)(hw:∀r∈l,Wf r)(hb:1<=bF)(hb2:bF<=20)(ho:0<out.size)(Iw:out.size<=24)(hox:F (nm out)=none)(hon:∀j,j<100->nf tp j≠nm out)(hroom:c+4*n+2<=room)(hc:c<90000):
 bk ab 210 #[.pointer (some ⟨bs,0,none⟩),.pointer (some ⟨br,0,none⟩),.string out,.int .i64 (bF:Nat)] w (UZ w D T R b room F out l):=by
 obtain⟨W1,hW1⟩:∃W1,W1=((w.alloc (.cells #[.pointer (some ⟨bs,0,none⟩)] 302 (0,0))).alloc (.cells #[.int .i64 0] 3 (0,0))).alloc (.cells #[.int .i64 0] 35 (0,0)):=⟨_,rfl⟩
 have k0:Keeps (fun _=>False) w W1:=by rw[hW1];exact(((Keeps.refl _ w).alloc _).alloc _).alloc _
 have hsz:W1.heap.size=w.heap.size+3:=by rw[hW1];simp
 have s4:St W1 w.heap.size 302 [.pointer (some ⟨bs,0,none⟩)]:=by rw[hW1];exact((St.new w 302 #[.pointer (some ⟨bs,0,none⟩)]).alloc _).alloc _
 have s8:St W1 (w.heap.size+1) 3 [.int .i64 0]:=by
  have:=(St.new (w.alloc (.cells #[.pointer (some ⟨bs,0,none⟩)] 302 (0,0))) 3 #[.int .i64 0]).alloc (.cells #[.int .i64 0] 35 (0,0));rw[<-hW1]at this;simpa using this
 have s9:St W1 (w.heap.size+1+1) 35 [.int .i64 0]:=by
  have:=St.new ((w.alloc (.cells #[.pointer (some ⟨bs,0,none⟩)] 302 (0,0))).alloc (.cells #[.int .i64 0] 3 (0,0))) 35 #[.int .i64 0];rw[<-hW1]at this;simpa using this
 have hbl:=hD.blt;have hcut:=ac3 (bF:=bF) (n:=n) (hD.keep k0 fun _ _=>id) (hS.keep k0 fun _ _=>id) iI (hR.keep k0 fun _ _=>id) QE hN hs hx hn hl2 hw hb (by omega) (by omega);have e4:=s4.cell 0 rfl;have HDl:=Y3 (fun k (h:D k)=>hD.lt h) hS.lt hR.lt;have HS:=Y6 s4 s8 s9 k0 hsz hW1;have HW:=Y6 hN hn hw hD.cost hox hon;rw[hW1]at e4 hcut;generalize hb4:w.heap.size=b4 at*;clear hD hS iI hR QE hN hx hn hw k0 hsz s4 s8 s9 hox hon hW1;refine(cF (n:=9)).1 ?_;refine callsIn_of_wp_marks func210 rfl trivial ?_ rfl;refine wpIn_wide.2 ?_;refine wp_mono (Q:=QM dC (UZ w D T R b room F out l)) ?_ QL;simp only[ntmps210,List.size_toArray,ca,dp,Nat.reduceAdd,Nat.reduceSub,Array.replicate_succ,Array.replicate_zero,List.push_toArray,List.append_toArray,cN,List.cons_append]
 go_wp2_with fail
 refine hcut.mono ?_;clear hcut e4;rintro e w2 ⟨v,rfl,hE⟩;have HE:=Y1 hE;have k2:Keeps (fun k=>D k∨T k∨R k) (((w.alloc (.cells #[.pointer (some ⟨bs,0,none⟩)] 302 (0,0))).alloc (.cells #[.int .i64 0] 3 (0,0))).alloc (.cells #[.int .i64 0] 35 (0,0))) w2:=by
  obtain⟨D',T',X',F',c',rs,_,_,_,_,_,⟨hk,_⟩,_⟩:=hE;exact hk
 have hnew:∀k,b4<=k->¬(D k∨T k∨R k):=fun k hk h=>by
  obtain⟨h1,h2,h3⟩:=HDl.out;rcases h with h|h|h
  .have:=h1 k h;omega
  .have:=h2 k h;omega
  .have:=h3 k h;omega
 obtain⟨s4,s8,s9,k0,hsz,hW1⟩:=HS.out;rw[<-hW1]at k2;have t9:=s9.keep k2 (hnew _ (by omega));have e9:=t9.cell 0 rfl;have f9:=t9.frozen 0;have HK:=Y2 k2 hnew;clear hE k2 hnew s4 s8 s9 k0 hsz hW1;replace t9:=Y1 t9
 go_wp2_with fail
 obtain⟨n0,UN⟩:=Fa.start (HE.out) hl2 (by simp;omega);rw[<-HS.out.2.2.2.2.2]at UN;have hA1:=UN.still (Iz t9.out);have HA:=Y1 hA1;clear UN hA1;refine wp_loop_ghost_k (fun k' a' w'=>∃(v10 u12 u29 u30 u31 u32 u33 u34 u35 u36 u37 u68:cq) (ds:List dr),aG (Fa W1 w' (fun k=>D k∨T k∨R k) bs b room tp F l k' v10 ds)∧a'={tmps:= #[.pointer (some ⟨bs,0,none⟩),.pointer (some ⟨br,0,none⟩),.string out,.int .i64 (bF:Nat),.pointer (some ⟨b4,0,none⟩),undef,undef,undef,.pointer (some ⟨b4+1,0,none⟩),.pointer (some ⟨b4+1+1,0,none⟩),v10,.int .i64 (n:Nat),u12,undef,undef,undef,undef,undef,.tuple #[v,.int .i64 (n:Nat),.int .i64 0],.pointer (some ⟨bs,0,none⟩),.pointer (some ⟨br,0,none⟩),.int .i64 (bF:Nat),.tuple #[v,.int .i64 (n:Nat),.int .i64 0],v,.int .i64 (n:Nat),.int .i64 0,.int .i64 0,.bool false,undef,u29,u30,u31,u32,u33,u34,u35,u36,u37,undef,undef,undef,undef,undef,undef,undef,undef,undef,undef,undef,undef,undef,undef,undef,undef,undef,undef,undef,undef,undef,undef,undef,undef,undef,undef,undef,undef,undef,undef,u68,undef,undef,undef,undef,undef,undef,undef,undef,undef,undef,undef,undef,undef,undef,undef,undef,undef,undef,undef,undef,undef,undef,undef,undef,undef,undef,undef,undef,undef,undef,undef],defers:=ds}) n0 ?_ ?_
 .exact⟨v,undef,undef,undef,undef,undef,undef,undef,undef,undef,undef,undef,[],HA,rfl⟩
 intro k' a' wr hI J K hJ hK;obtain⟨v10,u12,u29,u30,u31,u32,u33,u34,u35,u36,u37,u68,ds,hA,rfl⟩:=hI;obtain⟨D',T',X',F',c',rs,nx,⟨hD,hS,hv,LJ⟩,hI,⟨z1,z2⟩,hz,hkp,⟨hkey,hfull,hperm,htop,hlen⟩,hmk,hnd,hmd⟩:=hA.out;subst hlen;obtain⟨A10,Zv,rfl⟩:=aW hv;by_cases h2:1<rs.length
 .have h2':(1:Int)<rs.length:=by omega
  have e4:=hkp.cell (a:=⟨b4,0,none⟩) (HS.out.1.cell 0 rfl) (HK.out.2 _ (af _));have hSN:=hS.2 (by have:=(hkey _ (List.getElem_mem (show 0<rs.length by omega)));omega);obtain⟨aS,cS,lS,sS,_⟩:=id hSN;have eS2:=sS.cell 2 rfl;have kA:Keeps (fun _=>False) wr (wr.alloc (.cells #[.slice none 0 0] 86 (0,0))):=(Keeps.refl _ wr).alloc _;replace e4:=kA.cell e4 id;replace eS2:=kA.cell eS2 id;obtain⟨gn,rfl,_⟩:∃gn,A10=some ⟨gn,0,none⟩∧True:=by
   rcases hv.2 with⟨_,h⟩|⟨g,cap,cur,h,_⟩
   .omega
   .injection h with h _ _;exact⟨g,h,trivial⟩
  obtain⟨m,hm⟩:∃m,m=(rs.length+3)/4:=⟨_,rfl⟩
  have hcap:rs.length<=Zv:=by
   rcases hv.2 with⟨_,h⟩|⟨g,cap,cur,h,_,_,hh,_⟩
   .omega
   .injection h with _ _ h;omega
  have ahn:rs.length<=98:=by omega
  have ac_:nx+2*m<=98:=by omega
  have hRs:IB tp rs m nx:=⟨by omega,by omega,hkey,hfull,hI.mR,by omega⟩
  obtain⟨WB,hWB,ada,hPI,hcS,hcN⟩:=mJ.start (m:=m) hD hSN hv (LJ gn rfl) hI z1 z2 hz hkp hperm hmk (by rw[HS.out.2.2.2.2.1];omega) hRs.ge;have adb:uG WB gn:=by
   obtain⟨cs,t,fr,h⟩:=oC hv (k:=gn) rfl;rw[hWB];exact⟨cs,t,fr,(((((Keeps.refl (fun _=>False) wr).alloc _).alloc _).alloc _).at_ (ag.1 h).1 id).trans h⟩
  have hdl:aG (∀d∈ds,∀D,d.target=.collected D->D<WB.heap.size):=Y1 fun d hd D hD=>by
   obtain⟨D2,q1,q2⟩:=hmk d hd;rw[hD]at q1;cases q1;have:=(ag.1 q2).1;omega
  have HP:=Y9 hRs hPI ada adb hkp hnd hmd hcS hcN;have HMm:=Y1 hm;clear hm hRs hPI ada adb hcS hcN;have hch:=sG.chunk (some ⟨gn,0,none⟩) rs.length Zv (wr.alloc (.cells #[.slice none 0 0] 86 (0,0)));rw[World.size_alloc]at hch;clear hD hS hv LJ hI z1 z2 hz hkp hkey hfull hperm htop hmk hnd hmd hSN sS hA kA;dsimp only
  go_wp2_with fail
  refine hch.mono ?_;clear hch e4 eS2;rintro e w3 ⟨rfl,rfl⟩
  go_wp2_with fail
  rw[<-hWB];refine(wpIn_wide (n:=8)).1 ?_;obtain⟨E,hE⟩:∃E:Env,E={w1:=W1,Z:=fun k=>D k∨T k∨R k,B:=W1.heap.size,bs:=bs,b:=b,room:=room,b12:=wr.heap.size,gn:=gn,bS:=wr.heap.size+1,bN:=wr.heap.size+2,tp:=tp,F:=F,ks:=rs.map (·.1)}:=⟨_,rfl⟩
  have hB3:=HP.out.2.2.1.symm;have Zw:=HP.out.2.2.2.2.1.size;refine wpIn_rangeFunc_ownG (F:=Fence.wide) rfl (by decide) (gf:=254) (lb:= #[.pointer (some ⟨wr.heap.size+1,0,none⟩),.pointer (some ⟨wr.heap.size+1+1,0,none⟩)]) rfl trivial (enters_of func254 (by kernel_rfl) rfl)
   (sG.stops (8-1) (by decide) (wr.heap.size+1) (wr.heap.size+1+1) Zv rs.length m ⟨gn,0,none⟩ WB (by omega) (by omega) HP.out.1.ge HP.out.1.lt hcap (by omega) HP.out.2.2.2.2.2.2.2.1 HP.out.2.2.2.2.2.2.2.2) sG.Cn sG.OX (cz _ _) (fun _=>rfl)
   (fun pre W=>aG (pre.Nodup∧mJ E rs m nx l ds pre W∧uG W gn)) (fun c pre _=>c=.ret∧¬pre.Nodup) ?own (fun _ _ _ _ _ hs _ _=>hs) ?start ?a1 ?assign ?body ?done ?stop
  case own=>
   rintro s A B row hs hg hr;obtain⟨h1,h2,h3⟩:=hs.out;have hE1:E.B<=WB.heap.size∧E.w1.heap.size<=E.B∧E.gn=gn:=by
    rw[hE];exact⟨by dsimp only;omega,af _,rfl⟩
   obtain⟨q1,q2⟩:=h2.own hg hE1.1 hr hE1.2.1 (by rw[hE1.2.2];exact h3) hdl.out;exact⟨h1,q1,by rw[hE1.2.2]at q2;exact q2⟩
  case start=>
   rw[hE];exact⟨List.nodup_nil,HP.out.2.1,HP.out.2.2.2.1⟩
  case assign=>
   intro l1 x1 W1 K1 hK1
   gi_wp2
   exact hK1
  case stop=>
   rintro D0 c0 pre W6 _ ⟨k0,_,rfl⟩ ⟨rfl,h⟩ _;exact(h ((List.nodup_finRange m).sublist (List.take_sublist _ _))).elim
  case body=>
   rintro l2 pre x W2 hI2 hpre;obtain⟨zQ,⟨outs,hc,ho1,hp1,hl1,zR⟩,hgc⟩:=hI2.out;obtain⟨FZ,J9,QO,U4,Zx,Zy,qE7⟩:E.bs=bs∧E.tp=tp∧E.gn=gn∧E.b12=wr.heap.size∧E.w1=W1∧(E.Z=fun k=>D k∨T k∨R k)∧E.b=b:=by rw[hE];exact⟨rfl,rfl,rfl,rfl,rfl,rfl,rfl⟩
   have hb4:∀W,Keeps E.Z E.w1 W->W.cell? ⟨b4,0,none⟩=some (.pointer (some ⟨bs,0,none⟩)):=fun W hk=>by
    rw[Zx,Zy]at hk;exact hk.cell (a:=⟨b4,0,none⟩) (HS.out.1.cell 0 rfl) (HK.out.2 _ (af _))
   have htop:=HP.out.1.top;have hN1:bk ab 237 #[.pointer (some ⟨bs,0,none⟩)] W2 fun e W'=>e=.returned (.string (rn tp (nx+pre.length+1)))∧Core E (E8 E.bs E.b E.tp (nx+pre.length+1)) W' (left rs m pre++outs) outs∧gT E W2 W':=by
    have h:=hc.name (by omega) (by rw[J9];have:=HW.out.1.le;omega);rw[FZ,J9]at h⊢;exact h
   have e4:=hb4 _ hc.keep;have HI:=Y7 zQ hc ho1 hp1 hl1 zR hgc;have HE2:=Y7 FZ J9 QO U4 Zx Zy qE7;have Hb4:=Y1 hb4;clear zQ hc ho1 hp1 hl1 zR hgc FZ J9 QO U4 Zx Zy qE7 hb4 htop;refine wpIn_block ?_;refine wpIn_seq ?_;apply wpIn_cut (R:=fun w3=>Core E (E8 E.bs E.b E.tp (nx+pre.length+1)) w3 (left rs m pre++outs) outs∧gT E W2 w3)
   case h1=>
    gi_wp2_with (refine⟨trivial,?_⟩;gi_at_call 237;refine((cF.2 hN1).inRound l2).mono ?_;rintro e w3 ⟨rfl,hc1,sk1⟩;have HC1:=Y2 hc1 sk1;clear hc1 sk1)
    exact⟨rfl,HC1.out⟩
   case h2=>
    rintro w3 ⟨hc1,sk1⟩;show(Code.seq _ _).wpIn _ _ _ _ _ _;clear hN1;obtain⟨A5,cp5,l5,hl5,LV,U5,aga,ade⟩:=hc1.ac9 (by have:=HP.out.1.top;omega) (rn tp (nx+pre.length+1));have adf:=fun W0 h0=>Hb4.out _ (U5 W0 h0).2.1.keep
    have adg:=fun W0 h0=>by
     have:=(U5 W0 h0).1;rwa [HE2.out.1]at this
    have H5:=Y6 hc1 sk1 hl5 LV U5 ade;have Nk:=Y2 adf adg;clear hc1 sk1 hl5 LV U5 aga ade adf adg;refine wpIn_seq ?_;refine zP ?hL ?hd (IC w3 (.slice A5 l5.length cp5) l5.length l5) [5] [0,1,2,3,4] [6,7] [8,9] [10] (by kernel_rfl) (fun _ _ x _ _ h=>by cases x<;>exact h) H5.out.2.2.2.1 (by kernel_rfl) ?_
    case hL=>
     rintro⟨_,_,h⟩;exact h
    case hd=>exact U2 (by kernel_rfl)
    simp only[aJ,az,aE,ao,aq]
    repeat (refine aI (fun K hK=>?_);go_simp;refine hK _ ?_;clear hK K)
    refine au ?_;refine ak (fun K hK=>?_);go_simp;refine⟨.pointer (some ⟨bs,0,none⟩),fun w' hw'=>(by simp[Nk.out.1 w' hw']),hK _ ?_⟩;clear hK K;refine ak (fun K hK=>?_);go_simp;refine⟨.pointer (some ⟨bs,0,none⟩),fun w' hw'=>(by simp[Nk.out.1 w' hw']),hK _ ?_⟩;clear hK K;refine ak (fun K hK=>?_);go_simp;refine⟨_,fun w' hw'=>rfl,hK _ ?_⟩;clear hK K;refine ak (fun K hK=>?_);go_simp;refine⟨_,fun w' hw'=>rfl,hK _ ?_⟩;clear hK K;refine ak (fun K hK=>?_);go_simp;refine⟨.slice A5 l5.length cp5,fun w' hw'=>(by simp[Nk.out.2 w' hw']),hK _ ?_⟩;clear hK K;refine bD ?_;intro W0 h0;obtain⟨a6,Bj,w6,adh,Dy,⟨u6',c6⟩,f6,hc2,Nr⟩:=H5.out.2.2.2.2.2 W0 h0;have H6:=Y4 h0 Dy hc2 Nr;have R6:=Y1 adh;rw[HE2.out.1]at c6 f6;clear h0 adh Dy hc2 Nr;refine aH (fun K hK=>?_);have Zz:=Y1 hK;clear hK;have HC6:=Y2 c6 f6;have ZA:=Y1 hE;have HBW:=Y2 hB3 Zw;clear c6 f6 hE hB3 Zw;go_simp;refine Zz.out _ _ ⟨H6.out.1.1.alloc _,H6.out.1.2.alloc _⟩ ?_;clear Zz K;refine aH (fun K hK=>?_);have Zz:=Y1 hK;clear hK;refine Bq _ _ 86 86 rfl (by simp[cG]) (by simp[cG]) R6.out ?_;refine Zz.out _ _ H6.out.2.1 ?_;clear Zz K;refine aQ ?_
    repeat (refine aI (fun K hK=>?_);go_simp;refine hK _ ?_;clear hK K)
    refine au ?_;obtain⟨c6,f6⟩:=HC6.out
    go_wp2_with fail
    obtain⟨zQ,hcr,ho1,hp1,hl1,zR,hgc⟩:=HI.out;obtain⟨FZ,J9,QO,U4,Zx,Zy,qE7⟩:=HE2.out;have hc2:=H6.out.2.2.1;have Nr:=H5.out.2.1.trans H6.out.2.2.2;rw[FZ]at Nr;have hc2:Core E (pQ E.bs E.b E.tp (nx+pre.length+1)) (w6.setCell ⟨bs,5,none⟩ (.slice (some a6) (l5.length+1) Bj)) (left rs m pre++outs) outs:=by
     have:=H6.out.2.2.1;rw[FZ]at this⊢;exact this
    generalize w6.setCell ⟨bs,5,none⟩ (.slice (some a6) (l5.length+1) Bj)=w7 at*;have Sk:IB E.tp rs m nx:=by rw[J9];exact HP.out.1
    have zS:E.ks=rs.map (·.1):=by rw[ZA.out]
    have U6:iY E.tp E.F:=by rw[ZA.out];exact HW.out.1
    have hcE:rF E.F c:=by rw[ZA.out];exact HW.out.2.2.2.1
    have hrE:E.room=room:=by rw[ZA.out]
    have e47:=Hb4.out _ hc2.keep;have hln:=HW.out.2.1;by_cases hx:x∈pre
    .have hme:=LY (lU:=rn tp (nx+pre.length+1)) Sk zS U6 hx hpre hp1 hc2;rw[FZ,QO]at hme;have hsk:=Y1 Nr;clear zQ hcr ho1 hp1 hl1 zR hgc FZ J9 QO U4 hc2 Nr Sk zS U6 hcE hrE hln c6 f6;have HQ6:=Y2 Zx Zy;clear Zx Zy qE7
     gi_wp2_with (refine⟨trivial,?_⟩;gi_at_call 238;refine((cF.2 hme).inRound l2).mono ?_;rintro e w8 ⟨rfl,sk8,kp8⟩;have HS8:=Y2 sk8 kp8;clear sk8 kp8;obtain⟨c8,f8,c9,f9⟩:=U1 HQ6.out.1 HQ6.out.2 HS8.out.2 HS.out.2.1 HS.out.2.2.1 HK.out.2)
     refine⟨?_,rfl,?_⟩
     .refine KeepsFrom.trans (Y:=w8) ?_ (((KeepsOthers.setCell _ _ _).from _).trans ((KeepsOthers.setCell _ _ _).from _));exact uI (hsk.out.trans HS8.out.1).1 (by rw[ZA.out];dsimp only;have:=HBW.out;omega)
     .intro h;rw[dd]at h;exact h.2.2 x hx x (by simp) rfl
    .have hme:=Fj (l:=l) Sk zS U6 hcE hx hpre hp1 hl1 HW.out.2.2.1 hl2 (by rw[hrE,hln];exact hroom) hc hc2;rw[FZ,J9,QO]at hme;have adi:bk ab 238 #[.pointer (some ⟨bs,0,none⟩),.slice (some ⟨gn,4*x.1,none⟩) (sG.part rs.length x.1) (sG.part rs.length x.1),.string (rn tp (nx+pre.length+1))] w7 fun e W'=>e=.returned (.int .i64 0)∧IG E rs m nx pre outs x w7 W':=hme.mono fun e W' ⟨h1,zs,h2,h3,h4⟩=>⟨h1,zs,h2,by rw[FZ,J9];exact h3,h4⟩
     have HCC:=Wo Nr Sk zS U6 zQ ho1 hp1 hl1 zR hx;have HQ:=Y4 FZ J9 QO U4;clear hme zQ hcr ho1 hp1 hl1 zR hgc FZ J9 QO U4 Zx Zy qE7 hc2 Nr Sk zS U6 hcE hrE hln c6 f6 hx
     gi_wp2_with (first|(refine⟨trivial,?_⟩;gi_at_call 238;refine((cF.2 adi).inRound l2).mono ?_;clear adi;rintro e w8 ⟨rfl,LZ⟩;have H8:=Y1 LZ;clear LZ;have e48:=Hb4.out w8 H8.out.keep))
     obtain⟨zs,hz1,hz2,hz3⟩:=H8.out;obtain⟨FZ,J9,QO,U4⟩:=HQ.out;obtain⟨Nr,Sk,zS,U6,zQ,ho1,hp1,hl1,zR,hx⟩:=HCC.out;have hgo:bk ab 211 #[.pointer (some ⟨bs,0,none⟩),.slice (some ⟨gn,4*x.1,none⟩) (sG.part rs.length x.1) (sG.part rs.length x.1)] w8 fun e W'=>e=.returned (.int .i64 0)∧Core E (pQ E.bs E.b E.tp (nx+pre.length+1)) W' ((left rs m (pre++[x])++outs)++[(nx+pre.length+1,zs)]) outs∧gT E w8 W':=by
      have h:=IE Sk zS U6 hpre hz2;rw[FZ,QO]at h;rw[FZ];exact h
     have H9:=Y2 hz1 hz3;clear Nr Sk zS U6 zQ ho1 hp1 hl1 zR hx hz1 hz2 hz3 e48;refine⟨trivial,?_⟩;refine((cF.2 hgo).inRound l2).mono ?_;clear hgo;rintro e w9 ⟨rfl,hc9,sk9⟩;obtain⟨A10,ahU,DF,adj,w10,n1,n2,⟨u10,n3⟩,n4,n5,n6⟩:=hc9.next (lW _ _ _ _) (nx+pre.length+1,zs) (by have:=HCC.out.2.2.2.2.2.1;have:=HP.out.1.top;omega);rw[J9]at n2;rw[U4]at n1 n3 n4;have ZB:=Y3 sk9 n5 n6;clear hc9 sk9 n5 n6 FZ J9 QO U4;dsimp only at n2
     gi_wp2_with (first|(refine Df rfl _ _ 86 86 rfl (by simp[cG]) (by simp[cG]) n2 ?_;clear n2))
     obtain⟨zs',hz1,hz2,hz3⟩:=H8.out;obtain⟨Nr,Sk,zS,U6,zQ,ho1,hp1,hl1,zR,hx⟩:=HCC.out;have skA:gT E W2 (w10.setCell ⟨wr.heap.size,0,none⟩ (.slice (some DF) (outs.length+1) adj)):=by
      have:=((Nr.trans H9.out.2).trans ZB.out.1).trans ZB.out.2.2;rw[HQ.out.2.2.2]at this;exact this
     have hcF:=ZB.out.2.1;rw[HQ.out.2.2.2]at hcF;have hB1:E.B=W1.heap.size:=by rw[ZA.out]
     refine⟨uI skA.1 (by have:=HBW.out;omega),?_,⟨?_,?_,?_⟩⟩
     .have:=skA.2;rw[ZA.out]at this;exact this
     .rw[dd];exact⟨zQ,by simp,fun a ha b hb e=>hx (by simp at hb;rw[<-hb,<-e];exact ha)⟩
     .exact mJ.fin Sk hx ho1 hp1 hl1 H9.out.1 hcF (zR.step (fun d hd D hh=>by rw[hB1];exact HP.out.2.2.2.2.2.2.1 d hd D hh) skA)
     .have hcell:=hcF.names 0 (rs[0]'(by omega)).1 (by rw[zS,ar,ai (by omega)];rfl);rw[HQ.out.2.2.1]at hcell;exact uG.step (E:=E) (W:=W2) hcell
  case done=>
   rintro D0 xs W6 hD0 rfl hI6 hDf;have L6:E.w1=W1∧E.B=W1.heap.size∧E.b12=wr.heap.size∧E.Z=(fun k=>D k∨T k∨R k)∧E.bs=bs∧E.b=b∧E.room=room∧E.tp=tp∧E.F=F:=by rw[hE];exact⟨rfl,rfl,rfl,rfl,rfl,rfl,rfl,rfl,rfl⟩
   obtain⟨A11,adj,c12,ZC⟩:=hI6.out.2.1.end_ (by rw[L6.1,L6.2.1]) ac_ HP.out.2.2.2.2.2.1 (by rw[L6.1];exact HP.out.2.2.2.2.2.2.1) hDf (by rw[L6.1];omega) (fun d hd D hh=>aa (hdl.out d hd D hh) hD0);rw[L6.2.2.1]at c12;rw[L6.1,L6.2.2.2.1,L6.2.2.2.2.1,L6.2.2.2.2.2.1,L6.2.2.2.2.2.2.1,L6.2.2.2.2.2.2.2.1,L6.2.2.2.2.2.2.2.2]at ZC;have agb:=Y1 ZC;have agc:m<rs.length:=by have:=HMm.out;omega
   clear ZC hI6 hDf L6 hE hB3 Zw
   go_wp2_with fail
   exact Handed.intro m agc (hJ _ _ _ ⟨_,_,_,_,_,_,_,_,_,_,_,_,_,agb,rfl⟩)
 .have e4:wr.cell? ⟨b4,0,none⟩=some (.pointer (some ⟨bs,0,none⟩)):=hkp.cell (a:=⟨b4,0,none⟩) (HS.out.1.cell 0 rfl) (HK.out.2 _ (af _));have t8:=HS.out.2.1.keep hkp (HK.out.2 _ (by omega));have F3:=HS.out.2.2.1.keep hkp (HK.out.2 _ (by omega));have c8:=t8.cell 0 rfl;have f8:=t8.frozen 0;have c9:=F3.cell 0 rfl;have f9':=F3.frozen 0;obtain⟨⟨lS,hlS,vS,sS,_⟩,_⟩:=id hS;have eS0:=sS.cell 0 rfl;obtain⟨hN,hn,hw,nM,hox,hon⟩:=HW.out;cases rs with
  |nil=>
   obtain rfl:F'=F:=hI.done;have hcc:=hD.cost.unique nM;have hwr:=Ct (cp:=0) (l:=[]) (n:=0) (A:=none) hD ho Iw hox rfl (af _) (fun h=>absurd rfl h) (fun a e=>by cases e) (by simp) (by simp;omega) (by omega);have HP:=Y9 hD hz hkp hperm hmk hnd hmd t8 F3;clear hD hS hv LJ hI z1 z2 hz hkp hkey hfull hperm htop hmk hnd hmd sS t8 F3 hN hw nM hox hon hcc hA h2;dsimp only
   go_wp2_with fail
   refine hwr.mono ?_;clear hwr;rintro e w5 ⟨rfl,D2,c2,hD2,hc2,hst⟩;obtain⟨hD,hz,hkp,hperm,hmk,hnd,hmd,t8,F3⟩:=HP.out;have hnD:∀k,b4<=k->k<W1.heap.size->¬D' k:=fun k h1 h2 h=>(hz k (.inl h)).2.elim (HK.out.2 k h1) fun h=>by omega
   have U7:=t8.keep hst.1 (hnD _ (by omega) (by rw[HS.out.2.2.2.2.1];omega));have U8:=F3.keep hst.1 (hnD _ (by omega) (by rw[HS.out.2.2.2.2.1];omega));have hk5:=hkp.trans hst.1 fun k h=>(hz k (.inl h)).2
   have hm5:=mK hmk hmd hst.1 fun k h=>(hz k (.inl h)).1
   have c85:=U7.cell 0 rfl;have f85:=U7.frozen 0;have c95:=U8.cell 0 rfl;have f95:=U8.frozen 0;have H5:=Y6 hD2 hst U7 U8 hk5 hm5;clear hD2 hst U7 U8 hk5 hm5 hD hz hkp hperm hmk hnd hmd t8 F3 hnD c8 f8 c9 f9'
   go_wp2_with fail
   obtain⟨hD,hz,hkp,hperm,hmk,hnd,hmd,t8,F3⟩:=HP.out;obtain⟨hD2,hst,U7,U8,hk5,hm5⟩:=H5.out;subst hb4;exact Fp HS.out.2.2.2.1 HS.out.2.2.2.2.1 hD2 (by simpa using hperm) hk5 (fun k h=>(hst.2 k h).elim (fun h=>(hz k (.inl h)).2) fun h=>.inr (ax hkp.size h)) HK.out.2 U7 U8 hm5 hnd hmd hbl rfl rfl
  |cons p rs=>
   obtain rfl:rs=[]:=by simpa using h2
   obtain⟨gn,rfl,_⟩:∃gn,A10=some ⟨gn,0,none⟩∧True:=by
    rcases hv.2 with⟨_,h⟩|⟨g,cap,cur,h,_⟩
    .cases h
    .injection h with h _ _;exact⟨g,h,trivial⟩
   obtain⟨g,eg,hcg,_⟩:=dZ hv;cases eg;have cg:wr.cell? ⟨gn,0,none⟩=some (.string (rn tp p.1)):=hcg 0 _ rfl;have hp1:=hkey p (by simp);have hsz:=hN.size (j:=p.1) (by simp at htop;omega);have hFp:=hN.none p.1 hp1.1 (by simp at htop;omega);have hcc:=hD.cost.unique (qY.cost nM [p] F' hI fun q hq=>by
    obtain rfl:q=p:=by simpa using hq
    exact hFp)
   have hfl:=(ru [p] hfull).2;have hpl:=hperm.length_eq;have hdone:upd F' (nf tp p.1) none=F:=(qY.drop (rs:=[]) (ts:=[]) hI hFp).done;have hrn:∀W,aV W D' b room F' c'->bk ab 219 #[.pointer (some ⟨b,0,none⟩),.string (rn tp p.1),.string out] W fun e w'=>e=.returned (.int .i64 0)∧∃c',aV w' D' b room (upd F (nm out) (some (fileOf p.2))) c'∧Stp D' D' W w':=fun W hW=>by
    have h:=Ak hW (rn tp p.1) out (by unfold maxLen;omega) ho Iw (hon p.1 (by simp at htop;omega)) (hI.at_ p (by simp)) (by omega);rw[show nm (rn tp p.1)=nf tp p.1 from rfl,hdone]at h;exact h.mono fun e w' ⟨h1,c2,h2,_,h4⟩=>⟨h1,c2,h2,h4⟩
   have HRn:=Y1 hrn;obtain⟨rp,hrp⟩:∃r,bH.f 20 (n:Nat) (bF:Nat) 4=some r:=by
    have h:=E_ n (by omega) (bF-1) (by omega);rw[show bF-1+1=bF by omega]at h;exact Option.isSome_iff_exists.1 h
   have hps:=fun W=>bH.calls 20 (n:Nat) (bF:Nat) 4 rp W hrp
   have HP:=Y12 hD hz hkp hperm hmk hnd hmd t8 F3 sS hS z1;have HPs:=Y1 hps;clear hD hS hv LJ hI z1 z2 hz hkp hkey hfull hperm htop hmk hnd hmd sS t8 F3 hN hw nM hox hon hcc hA h2 hcg hp1 hsz hFp hfl hpl hdone hrp hps hrn;dsimp only
   go_wp2_with fail
   refine dG [4,5,7] [0,1,2,3,6] [8,9] (by kernel_rfl) (fun _ _ x _ _ h=>h) (by kernel_rfl) ?_;simp only[aJ,az,aE,ao,aq]
   repeat (refine aI (fun K hK=>?_);go_simp;refine hK _ ?_;clear hK K)
   refine au ?_
   repeat quiet_step (fail)
   refine wpQuiet_nil ?_;rintro _ ⟨nq,rfl⟩;obtain⟨hD,hz,hkp,hperm,hmk,hnd,hmd,t8,F3,sS,hS,z1⟩:=HP.out;have kq:Keeps (fun _=>False) wr (wr.drewN nq):=(Keeps.refl _ wr).drewN nq;have hrn:=HRn.out _ (hD.keep kq fun _ _=>id);have Zz:=Y1 kq;clear hD hz hkp hperm hmk hnd hmd t8 F3 sS hS z1 kq;generalize wr.drewN nq=w4 at*
   go_wp2_with fail
   refine hrn.mono ?_;clear hrn;rintro e w5 ⟨rfl,c2,hD2,hst⟩;obtain⟨hD,hz,hkp,hperm,hmk,hnd,hmd,t8,F3,sS,hS,z1⟩:=HP.out;have k5:=(Zz.out.mono fun _ _ h=>h.elim).trans hst.1 fun k h=>.inl h
   have hnD:∀k,b4<=k->k<W1.heap.size->¬D' k:=fun k h1 h2 h=>(hz k (.inl h)).2.elim (HK.out.2 k h1) fun h=>by omega
   have U9:T' bs:=by obtain⟨⟨_,_,_,_,_,q,_⟩,_⟩:=hS;exact q
   have s5:=sS.keep k5 (z1 _ U9);have U7:=t8.keep k5 (hnD _ (by omega) (by rw[HS.out.2.2.2.2.1];omega));have U8:=F3.keep k5 (hnD _ (by omega) (by rw[HS.out.2.2.2.2.1];omega));have e45:=k5.cell e4 (hnD b4 (af _) (by rw[HS.out.2.2.2.2.1];omega));have s5':St (w5.setCell ⟨bs,5,none⟩ (.slice none 0 0)) bs 304 _:=s5.set 5 (.slice none 0 0);have adk:=sS.ne t8 (by decide);have adl:=sS.ne F3 (by decide);have s86:=U7.other (a:=⟨bs,5,none⟩) (Ne.symm adk) (.slice none 0 0);have s96:=U8.other (a:=⟨bs,5,none⟩) (Ne.symm adl) (.slice none 0 0);have k6:Keeps (fun k=>k=bs) w5 (w5.setCell ⟨bs,5,none⟩ (.slice none 0 0)):=(Keeps.refl (fun k=>k=bs) w5).setCell (a:=⟨bs,5,none⟩) (.inl rfl) _;have s45:=(HS.out.1.keep hkp (HK.out.2 _ (af _))).keep k5 (hnD b4 (af _) (by rw[HS.out.2.2.2.2.1];omega));have adn:=s5.ne s45 (by decide);have e46:=(s45.other (a:=⟨bs,5,none⟩) (Ne.symm adn) (.slice none 0 0)).cell 0 rfl;have e26:=s5'.cell 2 rfl;have c5:=s5.cell 5 rfl;have f5:=s5.frozen 5;have Br:=(hkp.trans k5 fun k h=>(hz k (.inl h)).2).trans k6 fun k h=>by rw[h];exact(hz bs (.inr (.inl U9))).2
   have hm6:=mK (mK hmk hmd k5 fun k h=>(hz k (.inl h)).1) hmd k6 fun k h=>by
    rw[h];exact .inr s5.QJ
   have hD6:=hD2.keep k6 fun k h e=>z1 bs U9 (e▸h)
   have H6:=Y9 s86 s96 Br hm6 hD6 hnd hmd hperm hz;clear hD hz hkp hperm hmk hnd hmd t8 F3 sS hS z1 k5 hnD s5 U7 U8 s5' s86 s96 k6 s45 Br hm6 hD6 hD2 hst U9 adk adl adn
   go_wp2_with fail
   refine(HPs.out _).mono ?_;rintro e w7 ⟨rfl,hdr⟩;obtain⟨n7,rfl⟩:=hdr.out;clear hdr;have k7:Keeps (fun _=>False) (w5.setCell ⟨bs,5,none⟩ (.slice none 0 0)) ((w5.setCell ⟨bs,5,none⟩ (.slice none 0 0)).drewN n7):=(Keeps.refl _ _).drewN n7;have HD7:=Y1 (H6.out.2.2.2.2.1.keep k7 fun _ _=>id);have HS8:=Y1 (H6.out.1.keep k7 id);have HS9:=Y1 (H6.out.2.1.keep k7 id);have HK7:=Y1 (H6.out.2.2.1.trans k7 fun _ h=>h.elim);have HM7:=Y1 (mK (B:=0) H6.out.2.2.2.1 (fun _ _ _ _=>cW _) k7 fun _ h=>h.elim);clear k7;generalize (w5.setCell ⟨bs,5,none⟩ (.slice none 0 0)).drewN n7=w8 at*;have c88:=HS8.out.cell 0 rfl;have f88:=HS8.out.frozen 0;have c98:=HS9.out.cell 0 rfl;have f98:=HS9.out.frozen 0
   go_wp2_with fail
   obtain⟨s86,s96,Br,hm6,hD6,hnd,hmd,hperm,hz⟩:=H6.out;have hkw:=HP.out.2.2.1.size;subst hb4;exact Fp HS.out.2.2.2.1 HS.out.2.2.2.2.1 HD7.out (by simpa using hperm) HK7.out (fun k h=>(hz k (.inl h)).2) HK.out.2 HS8.out HS9.out HM7.out hnd hmd hbl rfl rfl
end
variable {D T:Nat->Prop}{F F':Files}{b bc bg br bF c cp i j k m n room:Nat}{w:al}
theorem ZE{tp s out:ByteArray}{l:List Rc}(hD:aV w D b room F c)(hN:iY tp F)(hs:s.size<=maxLen)(hx:F (nm s)=some (fileOf l))(hn:l.length=n)(hl2:l.length<=49)(hw:∀r∈l,Wf r)(hb:1<=bF)(hb2:bF<=20)(ho:0<out.size)(Iw:out.size<=24)(hox:F (nm out)=none)(hon:∀j,j<100->nf tp j≠nm out)(hroom:c+4*n+2<=room)(hc:c<90000):
 bk ab 187 #[.pointer (some ⟨b,0,none⟩),.string s,.string out,.string tp,.int .i64 (bF:Nat),.int .i64 4,.int .i64 0] w fun e w'=>∃p,e=.returned (.tuple #[.int .i64 p,.int .i64 0])∧∃D' c' zs,aV w' D' b room (upd F (nm out) (some (fileOf zs))) c'∧zs.Perm l∧Stp D D' w w':=by
 have hnr:=ng hD s hs hx;have HW:=Y6 hN hx hw hox hon hD.cost;have hbb:(1:Int)<=bF:=by omega
 clear hD hN hx hw hox hon;go_enter func187,ntmps187
 go_wp2_with fail
 refine hnr.mono ?_;clear hnr;rintro e w1 ⟨br,R,rfl,hD1,Sj,kI,CZ⟩;have hcr:=rW hD1 out ho Iw HW.out.2.2.2.1 (by omega);have H1:=Y4 hD1 Sj kI CZ;clear hD1 Sj kI CZ
 go_wp2_with fail
 refine hcr.mono ?_;clear hcr;rintro e w2 ⟨rfl,D2,hD2,d_⟩;have hrm:=qI hD2 out (by unfold maxLen;omega) (upd_same _ _ _);rw[qH,uR HW.out.2.2.2.1]at hrm;have H2:=Y2 hD2 d_;clear hD2 d_
 go_wp2_with fail
 refine hrm.mono ?_;clear hrm;rintro e w3 ⟨rfl,hD3,wM⟩;have H3:=Y2 hD3 wM;clear hD3 wM
 go_wp2_with fail
 obtain⟨W4,Ce⟩:=ex (w3.alloc (.cells #[.pointer (some ⟨b,0,none⟩),.string tp,.int .i64 4,.int .i64 0,.int .i64 0,.slice none 0 0] 304 (0,0)))
 rw[<-Ce];obtain⟨hN,hx,hw,hox,hon,nM⟩:=HW.out;obtain⟨hD1,Sj,kI,CZ⟩:=H1.out;obtain⟨hD2,d_⟩:=H2.out;obtain⟨hD3,wM⟩:=H3.out;have hcc:=hD3.cost.unique nM;rw[hcc]at hD3;have k4:Keeps (fun _=>False) w3 W4:=by rw[Ce];exact(Keeps.refl _ w3).alloc _
 have s4:St W4 w3.heap.size 304 (Xn b tp 0 (.slice none 0 0)):=by rw[Ce];exact St.new _ _ _
 have UU:W4.heap.size=w3.heap.size+1:=by rw[Ce];simp
 have z1:=kI.1.size;have z2:=d_.1.size;have z3:=wM.1.size;have ZF:∀k,R k->¬D2 k:=fun k h h2=>(d_.2 k h2).elim (CZ k h).2 fun h3=>by have:=Sj.lt k h;omega
 have uE:=((Sj.keep d_.1 fun k h=>(CZ k h).2).keep wM.1 ZF).keep k4 fun _ _=>id
 have hSA:gq W4 (fun k=>k=w3.heap.size) w3.heap.size b tp 0 []:=⟨_,s4,cH _ _ 9 1,rfl,fun k e=>(by cases e),fun k hk=>by omega⟩
 have hall:=QN (bF:=bF) (hD3.keep k4 fun _ _=>id) (⟨⟨[],af _,hSA⟩,fun h=>absurd h (by omega)⟩:fU W4 (fun k=>k=w3.heap.size) w3.heap.size b tp 0) (fun k h h2=>by have:=hD3.lt h2;omega) uE (fun k h=>⟨ZF k h,fun e=>by have:=Sj.lt k h;omega⟩) hN hs hx hn hl2 hw hb hb2 ho Iw hox hon hroom hc;have HZ:=Y9 kI d_ wM CZ k4 UU z1 z2 z3;clear hN hx hw hox hon nM hD1 Sj kI CZ hD2 d_ hD3 wM hcc k4 s4 UU z1 z2 z3 ZF uE hSA Ce;refine hall.mono ?_;clear hall;rintro e w5 ⟨p,rfl,D5,c5,zs,hD5,hz5,hk5,hf5⟩;have H5:=Y4 hD5 hz5 hk5 hf5;clear hD5 hz5 hk5 hf5
 go_wp2_with fail
 refine bodyPost_ret (results_tmp2 rfl _ _ _) rfl ?_;obtain⟨kI,d_,wM,CZ,k4,UU,z1,z2,z3⟩:=HZ.out;obtain⟨hD5,hz5,hk5,hf5⟩:=H5.out;have LW:∀k,D2 k->D k∨w.heap.size<=k:=fun k h=>(d_.2 k h).imp id fun h=>by omega
 have Xt:∀k,((D2 k∨k=w3.heap.size∨R k)->D k∨w.heap.size<=k):=fun k h=>by
  rcases h with h|h|h
  .exact LW k h
  .exact .inr (by omega)
  .exact .inr (CZ k h).1
 refine⟨p,rfl,D5,c5,zs,hD5,hz5,?_,fun k h=>(hf5 k h).elim (Xt k) fun h=>.inr (by omega)⟩;exact(((kI.1.trans d_.1 fun k h=>.inl h).trans wM.1 LW).trans k4 fun _ h=>h.elim).trans hk5 Xt
def sn(i:Nat):ByteArray:=⟨#[115,104,97,114,100,46]⟩++itoa i
theorem J_(w:al)(i:Nat)(hi:i<100):bk ab 69 #[.int .i64 (i:Nat)] w fun e w'=>e=.returned (.string (sn i))∧w'=w:=by
 have e1:=lu ⟨#[115,104,97,114,100,46]⟩ (itoa i) (by have:=nL i hi;have:(⟨#[115,104,97,114,100,46]⟩:ByteArray).size=6:=rfl;omega);have hiw:=qy w i hi;unfold sn;go_enter func69,ntmps69
 go_wp2_with fail
 refine hiw.mono ?_;clear hiw;rintro e w' ⟨rfl,rfl⟩
 go_wp2_with fail
 go_ret;exact⟨rfl,rfl⟩
theorem QS(hi:i<100)(hj:j<100)(h:nm (sn i)=nm (sn j)):i=j:=by
 unfold sn at h;rw[eT,eT _ (itoa j)]at h;exact qX hi hj (cJ h)
theorem Dh(hi:i<100):0<(sn i).size∧(sn i).size<=24:=by
 have h1:=nL i hi;have e:(sn i).size=6+(itoa i).size:=by
  unfold sn;rw[bb];rfl
 omega
structure Ed where
 a:Nat
 b:Nat
 c:Nat
def Ed.ok(n:Nat)(e:Ed):Prop:=e.a<n∧e.b<n∧e.c<4294967296
def pk(e:Ed):Rc:=((e.a*4294967296+e.b:Nat),(e.c:Nat))
theorem L8:∀a<12,∀b<12,Go.bits .or .u64 (dj.wrap ((dj.wrap ((a:Nat):Int))*4294967296)) (dj.wrap ((b:Nat):Int))=((a*4294967296+b:Nat):Int):=by decide+kernel
theorem U_{e:Ed}(h:e.ok 12):kM.f (e.a:Nat) (e.b:Nat) (e.c:Nat)=some ((pk e).1,(pk e).2):=by
 obtain⟨h1,h2,h3⟩:=h;unfold kM.f pk;rw[L8 e.a h1 e.b h2,IntKind.wrap_u64]
 congr 2
 omega
theorem Xu{e:Ed}(h:e.ok 12):Wf (pk e):=by
 obtain⟨h1,h2,h3⟩:=h;unfold pk;exact⟨⟨by omega,by dsimp only;omega⟩,by omega,by dsimp only;omega⟩
theorem L9{e:Ed}(h:e.ok 12):iJ.f (pk e).1 (pk e).2=some (((e.a:Nat):Int),((e.b:Nat):Int),((e.c:Nat):Int)):=by
 obtain⟨h1,h2,h3⟩:=h;unfold iJ.f pk;dsimp only
 congr 1
 refine Prod.ext ?_ (Prod.ext ?_ ?_)<;>dsimp only<;>omega
def jq(n₀:Nat)(w:al)(A:Option eo)(es:List Ed):Prop:=
 ∀k e,es[k]? =some e->∃g o,A=some ⟨g,o,none⟩∧g<n₀∧w.cell? ⟨g,o+k*3,none⟩=some (.int .u32 e.a)∧w.cell? ⟨g,o+k*3+1,none⟩=some (.int .u32 e.b)∧w.cell? ⟨g,o+k*3+2,none⟩=some (.int .u32 e.c)
variable {es r:List Ed}
theorem jq.below{n₀:Nat}{A B:al}(h:Below n₀ A B){a:Option eo}(he:jq n₀ A a es):jq n₀ B a es:=fun k e hk=>by
 obtain⟨g,o,h1,h2,h3,h4,h5⟩:=he k e hk;exact⟨g,o,h1,h2,(h.cell (p:=⟨g,o+k*3,none⟩) h2).trans h3,(h.cell (p:=⟨g,o+k*3+1,none⟩) h2).trans h4,(h.cell (p:=⟨g,o+k*3+2,none⟩) h2).trans h5⟩
def wn(i:Nat):ByteArray:=⟨#[112,97,114,116,46]⟩++itoa i
theorem Di(hi:i<100):0<(wn i).size∧(wn i).size<=24:=by
 have h1:=nL i hi;have e:(wn i).size=5+(itoa i).size:=by
  unfold wn;rw[bb];rfl
 omega
def zT(n s v:Nat):Nat:=((v+1)*s-1)/n
theorem ado{s v:Nat}(hn:n<=12)(hs:1<=s)(hs2:s<=6)(hv:v<n):gX.f (n:Nat) (s:Nat) (v:Nat)=some (((zT n s v:Nat):Int),0):=by
 unfold gX.f zT;rw[if_pos (by omega)];have:1<=(v+1)*s:=Nat.mul_pos (by omega) hs
 push_cast [Int.natCast_sub this]
 rfl
variable {A:Option eo}
theorem Va{s:Nat}(hD:aV w D b room F c)(hE:jq w.heap.size w A es)(zU:∀g o,A=some ⟨g,o,none⟩->¬D g)(hok:∀e∈es,e.ok n)(hm:es.length=m)(hm2:m<=40)(hn:n<=12)(hs:1<=s)(hs2:s<=6)(hi:i<100)(hx:F (nm (wn i))=none)(hroom:c+(m+2)<=room)(hc:c<90000):
 bk ab 186 #[.pointer (some ⟨b,0,none⟩),.agg #[.int .i64 (n:Nat),.slice A m cp],.int .i64 (s:Nat),.int .i64 (i:Nat)] w fun e w'=>e=.returned (.tuple #[.string (wn i),.int .i64 0])∧∃D' c',aV w' D' b room (upd F (nm (wn i)) (some (fileOf ((es.filter fun e=>zT n s e.b=i).map pk)))) c'∧Stp D D' w w':=by
 have e1:∀w,Sem.run ab (Op.stringOp .add ⟨#[112,97,114,116,46]⟩ (itoa i)) w=.ok (.string (wn i)) w:=lu ⟨#[112,97,114,116,46]⟩ (itoa i) (by have:=nL i hi;have:(⟨#[112,97,114,116,46]⟩:ByteArray).size=5:=rfl;omega);have hiw:=fun W=>qy W i hi
 have HW:=Y6 hD hE hok hm hx zU;have HI:=Y1 hiw;clear hD hE hok hm hx zU hiw;have hws:=Di hi;generalize wn i=lU at*;go_enter func186,ntmps186
 go_wp2_with fail
 refine(HI.out _).mono ?_;rintro e w1 ⟨rfl,rfl⟩
 go_wp2_with fail
 obtain⟨hD,hE,hok,hm,hx,zU⟩:=HW.out;have k1:Keeps (fun _=>False) w (w.alloc (.cells #[.int .i64 (n:Nat),.slice A m cp] 27 (0,0))):=(Keeps.refl _ w).alloc _;have s1:St (w.alloc (.cells #[.int .i64 (n:Nat),.slice A m cp] 27 (0,0))) w.heap.size 27 [.int .i64 (n:Nat),.slice A m cp]:=St.new _ _ _;have hsz1:(w.alloc (.cells #[.int .i64 (n:Nat),.slice A m cp] 27 (0,0))).heap.size=w.heap.size+1:=by simp
 have hnw:=qo (hD.keep k1 fun _ _=>id) lU hws.1 hws.2 hx (by omega);have H1:=Y3 k1 s1 hsz1;clear hD hE hok hm hx zU k1 s1 hsz1;refine hnw.mono ?_;clear hnw;rintro e w2 ⟨bw,D2,T,rfl,hD2,hW2,d_,rM⟩;obtain⟨k1,s1,hsz1⟩:=H1.out;have hDl:∀k,D k->k<w.heap.size:=fun k h=>HW.out.1.lt h
 have s2:=s1.keep d_.1 fun h=>by have:=hDl _ h;omega
 have c20:=s2.cell 0 rfl;have c21:=s2.cell 1 rfl;have H2:=Y5 hD2 hW2 d_ rM s2;clear hD2 hW2 d_ rM s2 k1 s1 hsz1 hDl
 go_wp2_with fail
 go_loopg [34] m (fun kq v34 wr=>∃k:Nat,kq+k=m∧v34=.int .i64 (k:Nat)∧aG (∃T',Writer wr T' bw b lU (((es.take k).filter fun e=>zT n s e.b=i).map pk)∧Stp T T' w2 wr))
 case atStart=>exact⟨0,by omega,rfl,⟨T,H2.out.2.1,Stp.refl _ _⟩⟩
 case round=>
  obtain⟨k,hk,rfl,hA⟩:=hrel;obtain⟨T',II,hst⟩:=hA.out;by_cases hlt:k<m
  .have hlt':(k:Int)<m:=by omega
   obtain⟨hD,hE,hok,hm,hx,zU⟩:=HW.out;obtain⟨hD2,hW2,d_,rM,s2⟩:=H2.out;obtain⟨x,hxk⟩:∃x,es[k]? =some x:=⟨_,ai (by omega)⟩
   obtain⟨xa,xb,xc⟩:=hok x (an hxk);obtain⟨g,o,rfl,hg,g0,g1,g2⟩:=hE k x hxk;have z1:=H1.out.2.2;have z2:=d_.1.size;have mv:∀{j:Nat} {u:cq},w.cell? ⟨g,j,none⟩=some u->wr.cell? ⟨g,j,none⟩=some u:=fun h=>hst.1.cell (d_.1.cell (H1.out.1.cell h id) (zU g o rfl)) fun hT=>by have:=(rM g hT).1;omega
   have g0:=mv g0;have g1:=mv g1;have g2:=mv g2;have c20:=hst.1.cell (s2.cell 0 rfl) fun hT=>by have:=(rM w.heap.size hT).1;omega
   have c20:=((Keeps.refl (fun _=>False) wr).alloc (.cells #[.int .u32 (x.a:Nat),.int .u32 (x.b:Nat),.int .u32 (x.c:Nat)] 46 (0,0))).cell c20 id;have hof:=fun W=>gX.calls (n:Nat) (s:Nat) (x.b:Nat) _ _ W (ado hn hs hs2 xb)
   have hpk:=fun W=>kM.calls (x.a:Nat) (x.b:Nat) (x.c:Nat) _ _ W (U_ ⟨by omega,by omega,xc⟩)
   have agd:=Y1 hof;have agf:=Y1 hpk;have HP:=Y3 II hst hxk;clear hD hE hok hm hx zU hD2 hW2 d_ rM s2 II hst hA z1 z2 hxk hof hpk
   go_wp2_with fail
   refine(agd.out _).mono ?_;rintro e w4 ⟨rfl,hb4⟩;have H4:=Y1 hb4;clear hb4;have htk:es.take (k+1)=es.take k++[x]:=by rw[de,HP.out.2.2];rfl
   have hbW:=((cz _ wr).alloc (af _) _).trans (H4.out.mono (by simp));obtain⟨k1,hk1⟩:∃k1,k1+(k+1)=m:=⟨m-(k+1),by omega⟩
   have hw:cX.wrap ((k:Int)+1)=(k+1:Nat):=by rw[cA];omega
   obtain⟨T',II,hst⟩:∃T',Writer w4 T' bw b lU (((es.take k).filter fun e=>zT n s e.b=i).map pk)∧Stp T T' w2 w4:=⟨T',HP.out.1.keep (Keeps.of_below (S:=fun _=>False) hbW) fun _ _=>id,HP.out.2.1.1.below hbW,HP.out.2.1.2⟩
   by_cases hoi:zT n s x.b=i
   .have agh:((zT n s x.b:Nat):Int)=(i:Int):=by omega
    have s46:=((St.new wr 46 #[.int .u32 (x.a:Nat),.int .u32 (x.b:Nat),.int .u32 (x.c:Nat)]).keep (Keeps.of_below (S:=fun _=>False) H4.out) id)
    have d0:=s46.cell 0 rfl;have d1:=s46.cell 1 rfl;have d2:=s46.cell 2 rfl;have HWr:=Y3 II hst htk;clear II hst htk hbW s46
    go_wp2_with fail
    refine(agf.out _).mono ?_;rintro e w5 ⟨rfl,hb5⟩;obtain⟨II,hst,htk⟩:=HWr.out;have Iu:=wY (II.keep (Keeps.of_below (S:=fun _=>False) hb5) fun _ _=>id) (by rw[cE];have:=bj (fun e=>decide (zT n s e.b=i)) (es.take k);rw[dg]at this;omega) (pk x);have H5:=Y1 hb5;clear II hst htk hb5
    go_wp2_with fail
    refine Iu.mono ?_;clear Iu;rintro e w6 ⟨rfl,T6,Vb,wN⟩;obtain⟨II,hst,htk⟩:=HWr.out;have HX:=Y1 (show ∃T',Writer w6 T' bw b lU (((es.take (k+1)).filter fun e=>zT n s e.b=i).map pk)∧Stp T T' w2 w6 from⟨T6,by rw[htk,da,dq];simpa[hoi]using Vb,(show Stp T T' w2 w5 from⟨hst.1.below H5.out,hst.2⟩).trans wN⟩);clear II hst htk Vb wN
    go_wp2_with fail
    go_roundg k1
    case measure=>omega
    case rel=>exact⟨k+1,by omega,by simp,HX⟩
   .have agh:¬((zT n s x.b:Nat):Int)=(i:Int):=by omega
    have HX:=Y1 (show ∃T',Writer w4 T' bw b lU (((es.take (k+1)).filter fun e=>zT n s e.b=i).map pk)∧Stp T T' w2 w4 from⟨T',by rw[htk,da,dq];simpa[hoi]using II,hst⟩);clear II hst htk hbW
    go_wp2_with fail
    go_roundg k1
    case measure=>omega
    case rel=>exact⟨k+1,by omega,by simp,HX⟩
  .have hkm:k=m:=by omega
   subst hkm;have hlt':¬(k:Int)<k:=by omega
   obtain⟨hD,hE,hok,hm,hx,zU⟩:=HW.out;obtain⟨hD2,hW2,d_,rM,s2⟩:=H2.out;rw[cx (by omega)]at II;have iI:∀j,T' j->¬D2 j:=fun j h h2=>(hst.2 j h).elim (fun h3=>(rM j h3).2 h2) fun h3=>by have:=hD2.lt h2;omega
   have hll:((es.filter fun e=>zT n s e.b=i).map pk).length<=es.length:=by rw[cE];exact bj _ _
   have hcl:=Cr (hD2.keep hst.1 fun j h h2=>(rM j h2).2 h) II iI (by unfold maxLen;omega) (upd_same _ _ _) (by omega) (by omega);rw[qH]at hcl;have HF:=Y3 hst d_ rM;clear hD hE hok hm hx zU hD2 hW2 d_ rM s2 II hst iI hll hA
   go_wp2_with fail
   refine hcl.mono ?_;clear hcl;rintro e w5 ⟨rfl,D5,c5,hD5,Qz,Fq⟩;have H5:=Y2 hD5 Fq;clear hD5 Fq
   go_wp2_with fail
   refine bodyPost_ret (results_tmp2 rfl _ _ _) rfl ?_;obtain⟨hst,d_,rM⟩:=HF.out;obtain⟨hD5,Fq⟩:=H5.out;have z1:=H1.out.2.2;have z2:=d_.1.size;have q1:∀j,D2 j->D j∨w.heap.size<=j:=fun j h=>(d_.2 j h).imp id fun h=>by omega
   have q2:∀j,T j->D j∨w.heap.size<=j:=fun j h=>.inr (by have:=(rM j h).1;omega)
   have q3:∀j,jC D2 T' j->D j∨w.heap.size<=j:=fun j h=>h.elim (q1 j) fun h=>(hst.2 j h).elim (q2 j) fun h=>.inr (by omega)
   refine⟨rfl,D5,c5,hD5,(((H1.out.1.mono fun _ _ h=>h.elim).trans d_.1 fun j h=>.inl h).trans hst.1 q2).trans Fq.1 q3,fun j h=>(Fq.2 j h).elim (q3 j) fun h=>.inr ?_⟩;have:=hst.1.size;omega
def run:ByteArray:=⟨#[114,117,110]⟩
theorem Xv(i:Nat):nm (wn i)=[112,97,114,116,46]++lQ i:=by unfold wn;rw[eT];rfl
theorem yU(i:Nat):nm (sn i)=[115,104,97,114,100,46]++lQ i:=by unfold sn;rw[eT];rfl
theorem QT(i:Nat):nf run i=[114,117,110,46]++lQ i:=by unfold nf rn;rw[eT,eT];rfl
theorem Ka(i j:Nat):nm (wn i)≠nm (sn j):=by rw[Xv,yU];intro h;cases h
theorem QU(i j:Nat):nf run i≠nm (sn j):=by rw[QT,yU];intro h;cases h
theorem ZG(i j:Nat):nf run i≠nm (wn j):=by rw[QT,Xv];intro h;cases h
theorem adp{s:Nat}(hD:aV w D b room F c)(hE:jq w.heap.size w A es)(zU:∀g o,A=some ⟨g,o,none⟩->¬D g)(hok:∀e∈es,e.ok n)(hm:es.length=m)(hm2:m<=40)(hn:n<=12)(hs:1<=s)(hs2:s<=6)(hi:i<100)(hx:F (nm (wn i))=none)(hy:F (nm (sn i))=none)(hN:iY run F)(hb:1<=bF)(hb2:bF<=20)(hroom:c+6*m+10<=room)(hc:c<80000):
 bk ab 177 #[.pointer (some ⟨b,0,none⟩),.agg #[.int .i64 (n:Nat),.slice A m cp],.int .i64 (s:Nat),.int .i64 (bF:Nat),.int .i64 (i:Nat)] w fun e w'=>e=.returned (.int .i64 0)∧∃D' c' zs,aV w' D' b room (upd F (nm (sn i)) (some (fileOf zs))) c'∧zs.Perm ((es.filter fun e=>zT n s e.b=i).map pk)∧Stp D D' w w':=by
 obtain⟨ls,hls⟩:∃ls,ls=(es.filter fun e=>zT n s e.b=i).map pk:=⟨_,rfl⟩
 have hll:ls.length<=m:=by rw[hls,cE,<-hm];exact bj _ _
 have hlw:∀r∈ls,Wf r:=fun r hr=>by
  rw[hls]at hr;obtain⟨e,he,rfl⟩:=dT.1 hr;obtain⟨h1,h2,h3⟩:=hok e (List.mem_filter.1 he).1;exact Xu ⟨by omega,by omega,h3⟩
 have k1:Keeps (fun _=>False) w (w.alloc (.cells #[.int .i64 (n:Nat),.slice A m cp] 27 (0,0))):=(Keeps.refl _ w).alloc _;have hE1:jq (w.alloc (.cells #[.int .i64 (n:Nat),.slice A m cp] 27 (0,0))).heap.size (w.alloc (.cells #[.int .i64 (n:Nat),.slice A m cp] 27 (0,0))) A es:=fun k e hk=>by
  obtain⟨g,o,h1,h2,h3,h4,h5⟩:=hE k e hk;exact⟨g,o,h1,aa h2 k1.size,k1.cell h3 id,k1.cell h4 id,k1.cell h5 id⟩
 have hsp:=Va (cp:=cp) (hD.keep k1 fun _ _=>id) hE1 zU hok hm hm2 hn hs hs2 hi hx (by omega) (by omega);rw[<-hls]at hsp⊢;have HW:=Y7 hx hy hN hD.cost hlw k1 hll;have c0:=St.new w 27 #[.int .i64 (n:Nat),.slice A m cp];clear hD hE zU hok hx hy hN hlw k1 hE1 hls hll c0;go_enter func177,ntmps177
 go_wp2_with fail
 refine hsp.mono ?_;clear hsp;rintro e w2 ⟨rfl,D2,c2,hD2,d_⟩;have H2:=Y2 hD2 d_;clear hD2 d_
 go_wp2_with fail
 refine(J_ _ i hi).mono ?_;rintro e w3 ⟨rfl,rfl⟩;obtain⟨hx,hy,hN,nM,hlw,k1,hll⟩:=HW.out;have hcc:=H2.out.1.cost.unique (nM.put hx);have hfl:=iT ls;have hc2:c2<=c+ls.length+3:=by rw[hcc,hfl];unfold sec;split<;>omega
 have hso:=ZE (bF:=bF) (s:=wn i) (out:=sn i) (tp:=run) (l:=ls) H2.out.1 ⟨fun j h1 h2=>by rw[aM _ _ (ZG j i)];exact hN.none j h1 h2,by decide⟩ (by have:=(Di hi).2;unfold maxLen;omega) (upd_same _ _ _) rfl (by omega) hlw hb hb2 (Dh hi).1 (Dh hi).2 (by rw[aM _ _ (Ka i i).symm];exact hy) (fun j _=>QU j i) (by omega) (by omega);have hrm:∀W D' c' zs,aV W D' b room (upd (upd F (nm (wn i)) (some (fileOf ls))) (nm (sn i)) (some (fileOf zs))) c'->bk ab 59 #[.pointer (some ⟨b,0,none⟩),.string (wn i)] W fun e w'=>e=.returned (.int .i64 0)∧∃c2,aV w' D' b room (upd F (nm (sn i)) (some (fileOf zs))) c2∧Stp D' D' W w':=fun W D' c' zs hW=>by
  have h:=qI hW (wn i) (by have:=(Di hi).2;unfold maxLen;omega) (by rw[aM _ _ (Ka i i),upd_same]);have e:upd (upd (upd F (nm (wn i)) (some (fileOf ls))) (nm (sn i)) (some (fileOf zs))) (nm (wn i)) none=upd F (nm (sn i)) (some (fileOf zs)):=by
   funext y
   by_cases e1:y=nm (wn i)
   .subst e1;rw[upd_same,aM _ _ (Ka i i),hx]
   .rw[aM _ _ e1];by_cases e2:y=nm (sn i)
    .subst e2;rw[upd_same,upd_same]
    .rw[aM _ _ e2,aM _ _ e1,aM _ _ e2]
  rw[e]at h;exact h.mono fun e w' ⟨h1,h2,h3⟩=>⟨h1,_,h2,h3⟩
 have HR:=Y1 hrm;clear hx hy hN nM hlw k1 hll hcc hfl hrm hc2
 go_wp2_with fail
 refine hso.mono ?_;clear hso;rintro e w4 ⟨p,rfl,D4,c4,zs,hD4,Xw,kC⟩;have hrm:=HR.out _ _ _ _ hD4;have H4:=Y2 Xw kC;clear hD4 Xw kC
 go_wp2_with fail
 refine hrm.mono ?_;clear hrm;rintro e w5 ⟨rfl,c5,hD5,Fq⟩;have H5:=Y2 hD5 Fq;clear hD5 Fq
 go_wp2_with fail
 go_ret;obtain⟨hx,hy,hN,nM,hlw,k1,hll⟩:=HW.out;refine⟨rfl,D4,c5,zs,H5.out.1,H4.out.1,?_⟩;have q1:Stp D D w (w.alloc (.cells #[.int .i64 (n:Nat),.slice A m cp] 27 (0,0))):=⟨k1.mono fun _ _ h=>h.elim,fun j h=>.inl h⟩
 exact Stp.trans (Stp.trans q1 H2.out.2) (Stp.trans H4.out.2 H5.out.2)
structure Ns (n s:Nat) (es:List Ed) (F F':Files) (k:Nat) (gI:List (List Rc)):Prop where
 len:gI.length=k
 at_:∀i zs,gI[i]? =some zs->F' (nm (sn i))=some (fileOf zs)∧zs.Perm ((es.filter fun e=>zT n s e.b=i).map pk)
 other:∀x,(∀i,i<k->x≠nm (sn i))->F' x=F x
theorem Ns.nil(n s:Nat)(es:List Ed)(F:Files):Ns n s es F F 0 []:=⟨rfl,fun i zs h=>by simp at h,fun _ _=>rfl⟩
variable {gI:List (List Rc)}
theorem Ns.add{s:Nat}{zs:List Rc}(h:Ns n s es F F' k gI)(hk:k<100)(hz:zs.Perm ((es.filter fun e=>zT n s e.b=k).map pk)):
 Ns n s es F (upd F' (nm (sn k)) (some (fileOf zs))) (k+1) (gI++[zs]):=by
 refine⟨by simp[h.len],fun i ys hi=>?_,fun x hx=>?_⟩
 .by_cases hik:i<k
  .rw[a_ (by rw[h.len];exact hik)]at hi;obtain⟨h1,h2⟩:=h.at_ i ys hi;exact⟨by rw[aM _ _ fun e=>by have:=QS (by omega) hk e;omega];exact h1,h2⟩
  .rw[bz (by rw[h.len];omega),h.len]at hi;obtain rfl:i=k:=by
    have:=(ae.1 hi).1;simp at this;omega
   rw[cM]at hi;obtain rfl:zs=ys:=by simpa using hi
   exact⟨upd_same _ _ _,hz⟩
 .rw[aM _ _ (hx k (by omega))];exact h.other x fun i hi=>hx i (by omega)
theorem Ns.Ke{s:Nat}(h:Ns n s es F F' k gI)(hk:k<=j)(hj:j<100)(hF:F (nm (sn j))=none):F' (nm (sn j))=none:=by
 rw[h.other _ fun i hi e=>by have:=QS hj (by omega) e;omega];exact hF
theorem Bt:∀n<13,∀s<7,0<s->∃l,dQ.f 20 (n:Nat) (s:Nat)=some (l,0)∧l.length=s+1∧l[s]? =some ((n:Nat):Int)∧∀x∈l,0<=x∧x<=12:=by
 intro n hn s hs h0;have key:∀n<13,∀s<6,(match dQ.f 20 (n:Nat) ((s+1:Nat):Int)with|some (l,e)=>decide (e=0)&&(decide (l.length=s+2)&&(decide (l[s+1]? =some ((n:Nat):Int))&&l.all fun x=>decide (0<=x)&&decide (x<=12)))|none=>false)=true:=by decide+kernel
 obtain⟨s,rfl⟩:∃t,s=t+1:=⟨s-1,by omega⟩
 have:=key n hn s (by omega)
 split at this
 .rename_i l e hl
  simp only[Bool.and_eq_true,decide_eq_true_eq,df]at this;obtain⟨rfl,h2,h3,h4⟩:=this;exact⟨l,hl,h2,h3,h4⟩
 .cases this
theorem uJ(w:al){s:Nat}(hn:n<=12)(hs:1<=s)(hs2:s<=6):∃l:List Int,l.length=s+1∧l[s]? =some ((n:Nat):Int)∧(∀x∈l,0<=x∧x<=12)∧
 bk ab 129 #[.int .i64 (n:Nat),.int .i64 (s:Nat)] w fun e w'=>∃v,e=.returned (.tuple #[v,.int .i64 0])∧Kd.R (Kd.int .i64) 3 w' w.heap.size (fun _=>True) v l∧Below w.heap.size w w':=by
 obtain⟨l,h1,h2,h3,h4⟩:=Bt n (by omega) s (by omega) hs;exact⟨l,h2,h3,h4,dQ.calls 20 _ _ _ _ w h1⟩
theorem ZH(W:al){x:Ed}(hg:W.cell? ⟨bg,0,none⟩=some (.int .i64 (n:Nat)))(hx:x.ok n)(hn:n<=1000):
 bk ab 185 #[.agg #[.int .u32 (x.a:Nat),.int .u32 (x.b:Nat),.int .u32 (x.c:Nat)],.pointer (some ⟨bg,0,none⟩)] W fun e w'=>e=.returned (.bool false)∧Below W.heap.size W w':=by
 obtain⟨h1,h2,h3⟩:=hx;have z1:¬(n:Int)<=(x.a:Nat):=by omega
 have z2:¬(n:Int)<=(x.b:Nat):=by omega
 have z3:cX.wrap ((x.a:Nat):Int)=(x.a:Nat):=by rw[cA];omega
 have z4:cX.wrap ((x.b:Nat):Int)=(x.b:Nat):=by rw[cA];omega
 have g0:=((Keeps.refl (fun _=>False) W).alloc (.cells #[.int .u32 (x.a:Nat),.int .u32 (x.b:Nat),.int .u32 (x.c:Nat)] 46 (0,0))).cell hg id;have s0:=St.new W 46 #[.int .u32 (x.a:Nat),.int .u32 (x.b:Nat),.int .u32 (x.c:Nat)];have d0:=s0.cell 0 rfl;have d1:=s0.cell 1 rfl;have HB:=Y1 ((cz _ W).alloc (af _) (.cells #[.int .u32 (x.a:Nat),.int .u32 (x.b:Nat),.int .u32 (x.c:Nat)] 46 (0,0)));clear h1 h2 h3 s0 hg;go_enter func185,ntmps185
 go_wp2_with fail
 go_ret;exact⟨rfl,HB.out⟩
theorem ZI(W:al)(hg:W.cell? ⟨bg,0,none⟩=some (.int .i64 (n:Nat)))(hbg:bg<W.heap.size)(hE:jq W.heap.size W A es)(hok:∀e∈es,e.ok n)(hm:es.length=m)(hm2:m<=1000)(hn:n<=1000):
 bk ab 202 #[.slice A m cp,.func (.func 185) #[] #[.pointer (some ⟨bg,0,none⟩)]] W fun e w'=>e=.returned (.int .i64 (-1))∧Below W.heap.size W w':=by
 have HW:=Y5 hg hbg hE hok hm;clear hg hbg hE hok hm;go_enter func202,ntmps202
 go_wp2_with fail
 go_loopg [8] m (fun kq v8 wr=>∃k:Nat,kq+k=m∧v8=.int .i64 (k:Nat)∧aG (Below W.heap.size W wr))
 case atStart=>exact⟨0,by omega,rfl,⟨cz _ _⟩⟩
 case round=>
  obtain⟨k,hk,rfl,hA⟩:=hrel;by_cases hlt:k<m
  .have hlt':(k:Int)<m:=by omega
   obtain⟨hg,hbg,hE,hok,hm⟩:=HW.out;obtain⟨x,hxk⟩:∃x,es[k]? =some x:=⟨_,ai (by omega)⟩
   have hxo:=hok x (an hxk);obtain⟨g,o,rfl,hg',g0,g1,g2⟩:=hE k x hxk;have mv:∀{j i:Nat} {u:cq},j<W.heap.size->W.cell? ⟨j,i,none⟩=some u->wr.cell? ⟨j,i,none⟩=some u:=fun hj h=>(hA.out.cell (p:=⟨_,_,none⟩) hj).trans h
   have g0:=mv hg' g0;have g1:=mv hg' g1;have g2:=mv hg' g2;have HQ:=Y1 (ZH wr (mv hbg hg) hxo hn);obtain⟨k1,hk1⟩:∃k1,k1+(k+1)=m:=⟨m-(k+1),by omega⟩
   clear hg hbg hE hok hm hxk hxo mv
   go_wp2_with fail
   refine HQ.out.mono ?_;rintro e w4 ⟨rfl,hb4⟩;have H4:=Y1 (hA.out.trans (hb4.mono hA.out.size));clear hb4 hA
   go_wp2_with fail
   go_roundg k1
   case measure=>omega
   case rel=>exact⟨k+1,by omega,by simp,H4⟩
  .have hkm:k=m:=by omega
   subst hkm;have hlt':¬(k:Int)<k:=by omega
   go_wp2_with fail
   go_ret;exact⟨rfl,hA.out⟩
theorem Vd(W:al)(hg:W.cell? ⟨bg,0,none⟩=some (.int .i64 (n:Nat)))(hbg:bg<W.heap.size)(hE:jq W.heap.size W A es)(hok:∀e∈es,e.ok n)(hm:es.length=m)(hm2:m<=1000)(hn:n<=1000):
 bk ab 184 #[.slice A m cp,.func (.func 185) #[] #[.pointer (some ⟨bg,0,none⟩)]] W fun e w'=>e=.returned (.bool false)∧Below W.heap.size W w':=by
 have HI:=Y1 (ZI W hg hbg hE hok hm hm2 hn (cp:=cp));clear hg hbg hE hok hm;go_enter func184,ntmps184
 go_wp2_with fail
 refine HI.out.mono ?_;rintro e w1 ⟨rfl,hb⟩;have H1:=Y1 hb;clear hb
 go_wp2_with fail
 go_ret;exact⟨rfl,H1.out⟩
theorem Fu(W:al)(hE:jq W.heap.size W A es)(hok:∀e∈es,e.ok n)(hm:es.length=m)(hm2:m<=1000)(hn:n<=1000):
 bk ab 176 #[.agg #[.int .i64 (n:Nat),.slice A m cp]] W fun e w'=>e=.returned (.bool true)∧Below W.heap.size W w':=by
 have hb:=(cz W.heap.size W).alloc (af _) (.cells #[.int .i64 (n:Nat),.slice A m cp] 27 (0,0));have s0:=St.new W 27 #[.int .i64 (n:Nat),.slice A m cp];have hE1:jq (W.alloc (.cells #[.int .i64 (n:Nat),.slice A m cp] 27 (0,0))).heap.size (W.alloc (.cells #[.int .i64 (n:Nat),.slice A m cp] 27 (0,0))) A es:=fun k e hk=>by
  obtain⟨g,o,h1,h2,h3⟩:=(hE.below hb) k e hk;exact⟨g,o,h1,aa h2 hb.size,h3⟩
 have c0:=s0.cell 0 rfl;have c1:=s0.cell 1 rfl;have HI:=Y1 (Vd _ c0 s0.lt hE1 hok hm hm2 hn (cp:=cp));have HB:=Y1 hb;have z0:¬(n:Int)<0:=by omega
 have z1:¬(1048576:Int)<n:=by omega
 have z2:¬(1048576:Int)<m:=by omega
 clear hE hok hm hE1 s0 hb;go_enter func176,ntmps176
 go_wp2_with fail
 refine HI.out.mono ?_;rintro e w1 ⟨rfl,hb⟩;have H1:=Y1 hb;clear hb
 go_wp2_with fail
 go_ret;exact⟨rfl,HB.out.trans (H1.out.mono HB.out.size)⟩
theorem Ve{s:Nat}(hD:aV w D b room F c)(hE:jq w.heap.size w A es)(zU:∀g o,A=some ⟨g,o,none⟩->¬D g)(hAl:∀g o,A=some ⟨g,o,none⟩->g<w.heap.size)(hok:∀e∈es,e.ok n)(hm:es.length=m)(hm2:m<=40)(hn:n<=12)(hs:1<=s)(hs2:s<=6)(hx:∀i,i<100->F (nm (wn i))=none)(hy:∀i,i<100->F (nm (sn i))=none)(hN:iY run F)(hb:1<=bF)(hb2:bF<=20)(hroom:c+s*(m+2)+6*m+10<=room)(hc:c<70000):
 bk ab 170 #[.pointer (some ⟨b,0,none⟩),.agg #[.int .i64 (n:Nat),.slice A m cp],.int .i64 (s:Nat),.int .i64 (bF:Nat)] w fun e w'=>e=.returned (.int .i64 0)∧∃D' c' F' gI,aV w' D' b room F' c'∧Ns n s es F F' s gI∧c'<=c+s*(m+2)∧Stp D D' w w':=by
 obtain⟨w1,hw1⟩:=ex (w.alloc (.cells #[.int .i64 (n:Nat),.slice A m cp] 27 (0,0)))
 have k1:Keeps (fun _=>False) w w1:=by rw[hw1];exact(Keeps.refl _ w).alloc _
 have s1:St w1 w.heap.size 27 [.int .i64 (n:Nat),.slice A m cp]:=by rw[hw1];exact St.new _ _ _
 obtain⟨bl,-,-,-,hbw⟩:=uJ w1 hn hs hs2;have c0:=s1.cell 0 rfl;have HW:=Wo hD hE zU hok hm hx hy hN k1 s1;have hsm:s*(m+2)<=300:=ax (dt hs2 (Nat.add_le_add_right hm2 2)) (by omega);have zb:¬(bF:Int)<1:=by omega
 clear hD hE zU hok hm hx hy hN k1 s1;go_enter func170,ntmps170
 go_wp2_with fail
 rw[<-hw1];refine hbw.mono ?_;clear hbw;rintro e w2 ⟨v2,rfl,-,hb2⟩;obtain⟨hD,hE,zU,hok,hm,hx,hy,hN,k1,s1⟩:=HW.out;have s2:=s1.keep (Keeps.of_below (S:=fun _=>False) hb2) id;have d0:=s2.cell 0 rfl;have d1:=s2.cell 1 rfl;have b2:Below w.heap.size w w2:=by rw[hw1]at hb2;exact((cz _ w).alloc (af _) _).trans (hb2.mono (by simp))
 have hE2:jq w2.heap.size w2 A es:=fun k e hk=>by
  obtain⟨g,o,h1,h2,h3⟩:=(hE.below b2) k e hk;exact⟨g,o,h1,aa h2 b2.size,h3⟩
 have her:=Fu w2 hE2 hok hm (by omega) (by omega) (cp:=cp);have H2:=Y2 b2 s2;clear hD hE zU hok hm hx hy hN k1 s1 s2 b2 hE2 hb2
 go_wp2_with fail
 refine her.mono ?_;clear her;rintro e w3 ⟨rfl,hb3⟩;have H3:=Y1 hb3;clear hb3
 go_wp2_with fail
 go_loopg [33] s (fun kq v33 wr=>∃i:Nat,kq+i=s∧v33=.int .i64 (i:Nat)∧aG (∃D' c' F' gI,aV wr D' b room F' c'∧Ns n s es F F' i gI∧c'<=c+i*(m+2)∧Stp D D' w3 wr))
 case atStart=>
  have b3:=H2.out.1.trans (H3.out.mono H2.out.1.size);exact⟨0,by omega,rfl,⟨D,c,F,[],HW.out.1.keep (Keeps.of_below (S:=fun _=>False) b3) fun _ _=>id,Ns.nil _ _ _ _,by omega,Stp.refl _ _⟩⟩
 case round=>
  obtain⟨i,hi,rfl,hA⟩:=hrel;by_cases hlt:i<s
  .have hlt':(i:Int)<s:=by omega
   obtain⟨D',c',F',gI,hD',hF',hc',hst⟩:=hA.out;obtain⟨hD,hE,zU,hok,hm,hx,hy,hN,k1,s1⟩:=HW.out;have b3:=H2.out.1.trans (H3.out.mono H2.out.1.size);have s3:=H2.out.2.keep (Keeps.of_below (S:=fun _=>False) H3.out) id;have hDl:∀k,D k->k<w.heap.size:=fun k h=>hD.lt h
   have z3:=s3.lt;have sr:=s3.keep hst.1 fun h=>by have:=hDl _ h;omega
   have d1:=sr.cell 1 rfl;have d0:=sr.cell 0 rfl;have Sl:jq w3.heap.size w3 A es:=fun k e hk=>by
    obtain⟨g,o,h1,h2,h3⟩:=(hE.below b3) k e hk;exact⟨g,o,h1,aa h2 b3.size,h3⟩
   have hEr:jq wr.heap.size wr A es:=fun k e hk=>by
    obtain⟨g,o,h1,h2,h3,h4,h5⟩:=Sl k e hk;have hg:=zU g o h1;exact⟨g,o,h1,aa h2 hst.1.size,hst.1.cell h3 hg,hst.1.cell h4 hg,hst.1.cell h5 hg⟩
   have adq:∀g o,A=some ⟨g,o,none⟩->¬D' g:=fun g o h hg=>(hst.2 g hg).elim (zU g o h) fun hh=>by
    have:=hAl g o h;have:=b3.size;omega
   have him:i*(m+2)+(m+2)<=s*(m+2):=by
    have:=cC (m+2) (show i+1<=s from hlt);rwa [di,eh]at this
   have h1:=adp (bF:=bF) (cp:=cp) hD' hEr adq hok hm hm2 hn hs hs2 (show i<100 by omega) (by rw[hF'.other _ fun j _=>Ka i j];exact hx i (by omega)) (hF'.Ke (af _) (by omega) (hy i (by omega))) ⟨fun j h1 h2=>by rw[hF'.other _ fun k _=>QU j k];exact hN.none j h1 h2,by decide⟩ hb hb2 (by omega) (by omega);obtain⟨k1',ahV⟩:∃k1,k1+(i+1)=s:=⟨s-(i+1),by omega⟩
   have HR:=Y4 hD' hF' hc' hst;clear hD hE zU hok hm hx hy hN k1 s1 b3 s3 hDl z3 sr Sl hEr adq hD' hF' hc' hst hA
   go_wp2_with fail
   refine h1.mono ?_;clear h1;rintro e w4 ⟨rfl,D4,c4,zs,hD4,Xw,kC⟩;obtain⟨hD',hF',hc',hst⟩:=HR.out;have hc4:=hD'.cost.bound (hF'.Ke (af i) (by omega) (HW.out.2.2.2.2.2.2.1 i (by omega))) hD4.cost;have hzl:zs.length<=m:=by
    rw[Xw.length_eq,cE,<-HW.out.2.2.2.2.1];exact bj _ _
   rw[iT]at hc4;have Qz:c4<=c+(i+1)*(m+2):=by
    rw[di,eh];rw[hc4];unfold sec
    split<;>omega
   have H4:=Y1 (show ∃D' c' F' gI,aV w4 D' b room F' c'∧Ns n s es F F' (i+1) gI∧c'<=c+(i+1)*(m+2)∧Stp D D' w3 w4 from⟨D4,c4,_,_,hD4,hF'.add (by omega) Xw,Qz,hst.trans kC⟩);clear hD' hF' hc' hst hD4 Xw kC hc4 hzl Qz
   go_wp2_with fail
   go_roundg k1'
   case measure=>omega
   case rel=>exact⟨i+1,by omega,by simp,H4⟩
  .have his:i=s:=by omega
   subst his;have hlt':¬(i:Int)<i:=by omega
   go_wp2_with fail
   go_ret;obtain⟨D',c',F',gI,hD',hF',hc',hst⟩:=hA.out;have b3:=H2.out.1.trans (H3.out.mono H2.out.1.size);refine⟨rfl,D',c',F',hD',⟨gI,hF'⟩,hc',(show Stp D D w w3 from⟨Keeps.of_below b3,fun _ h=>.inl h⟩).trans hst⟩
def csr(br x y z:Nat)(t:Bool):List cq:=[Ptr br,.int .u32 (x:Nat),.int .u32 (y:Nat),.int .u32 (z:Nat),.bool t]
def Bu(w:al)(T:Nat->Prop)(b:Nat)(F:Files)(bc br:Nat)(r:List Ed):Prop:=
 ∃s ld x y z t,St w bc 348 (csr br x y z t)∧Reader w T br b s (r.map pk) ld∧s.size<=maxLen∧(ld=false->F (nm s)=some (fileOf (r.map pk)))
def lM(w:al)(T:Nat->Prop)(b bc br:Nat):List Ed->Prop
 | []=>∃x y z,St w bc 348 (csr br x y z false)
 |e::r=>St w bc 348 (csr br e.a e.b e.c true)∧∃s,Reader w T br b s (r.map pk) true∧s.size<=maxLen
theorem Bu.keep{w w':al}{S T:Nat->Prop}{b bc br:Nat}{F:Files}{r:List Ed}(h:Bu w T b F bc br r)(hk:Keeps S w w')(h1:¬S bc)(h2:∀k,T k->¬S k):Bu w' T b F bc br r:=by
 obtain⟨s,ld,x,y,z,t,p1,p2,p3,p4⟩:=h;exact⟨s,ld,x,y,z,t,p1.keep hk h1,p2.keep hk h2,p3,p4⟩
theorem lM.keep{w w':al}{S T:Nat->Prop}{b bc br:Nat}{r:List Ed}(h:lM w T b bc br r)(hk:Keeps S w w')(h1:¬S bc)(h2:∀k,T k->¬S k):lM w' T b bc br r:=by
 cases r with
 |nil=>
  obtain⟨x,y,z,p⟩:=h;exact⟨x,y,z,p.keep hk h1⟩
 |cons e r=>
  obtain⟨p1,s,p2,p3⟩:=h;exact⟨p1.keep hk h1,s,p2.keep hk h2,p3⟩
theorem lM.hold{e:Ed}(h:lM w T b bc br (e::r)):Bu w T b F bc br r:=by
 obtain⟨p1,s,p2,p3⟩:=h;exact⟨s,true,_,_,_,_,p1,p2,p3,fun e=>by cases e⟩
theorem moved{x y z:Nat}{t:Bool}(hs:St w bc 348 (csr br x y z t))(x' y' z':Nat)(t':Bool):
 St ((((w.setCell ⟨bc,1,none⟩ (.int .u32 (x':Nat))).setCell ⟨bc,2,none⟩ (.int .u32 (y':Nat))).setCell ⟨bc,3,none⟩ (.int .u32 (z':Nat))).setCell ⟨bc,4,none⟩ (.bool t')) bc 348 (csr br x' y' z' t')∧
  Keeps (fun k=>k=bc) w ((((w.setCell ⟨bc,1,none⟩ (.int .u32 (x':Nat))).setCell ⟨bc,2,none⟩ (.int .u32 (y':Nat))).setCell ⟨bc,3,none⟩ (.int .u32 (z':Nat))).setCell ⟨bc,4,none⟩ (.bool t')):=
 ⟨(((hs.set 1 _).set 2 _).set 3 _).set 4 _,((((Keeps.refl (fun k=>k=bc) w).setCell (a:=⟨bc,1,none⟩) (.inl rfl) _).setCell (a:=⟨bc,2,none⟩) (.inl rfl) _).setCell (a:=⟨bc,3,none⟩) (.inl rfl) _).setCell (a:=⟨bc,4,none⟩) (.inl rfl) _⟩
theorem Vf(hD:aV w D b room F c)(hH:Bu w T b F bc br r)(iI:∀k,T k->¬D k)(hbc:¬D bc∧¬T bc)(hl:r.length<=49)(hok:∀e∈r,e.ok 12):
 bk ab 262 #[Ptr bc] w fun e w'=>e=.returned (.int .i64 0)∧∃T',aV w' D b room F c∧lM w' T' b bc br r∧Keeps (fun k=>D k∨T k∨k=bc) w w'∧(∀k,T' k->T k∨w.heap.size<=k)∧∀k,T' k->¬D k∧k≠bc∧k<w'.heap.size:=by
 obtain⟨s,ld,x,y,z,t,hs,hR,hss,hx⟩:=hH;have c0:=hs.cell 0 rfl;have hbl:=hs.lt;cases r with
 |nil=>
  have hnx:=t_ (show Reader w T br b s [] ld from hR);have hun:=fun W=>iJ.calls 0 0 0 0 0 W (by kernel_rfl)
  have HW:=Y6 hD hs iI hbc hR.lt hun;clear hD hs hR iI hbc hun hx;go_enter ef,dy
  go_wp2_with fail
  refine hnx.mono ?_;clear hnx;rintro e w2 ⟨rfl,hb2⟩;have H2:=Y1 hb2;clear hb2
  go_wp2_with fail
  refine(HW.out.2.2.2.2.2 _).mono ?_;rintro e w4 ⟨rfl,hb4⟩;obtain⟨hD,hs,iI,hbc,iy,-⟩:=HW.out;have k4:=(((Keeps.of_below (S:=fun _=>False) H2.out).alloc (.cells #[.int .u64 0,.int .u64 0] 283 (0,0)))).below hb4;have s4:=hs.keep k4 id;have d1:=s4.cell 1 rfl;have d2:=s4.cell 2 rfl;have d3:=s4.cell 3 rfl;have d4:=s4.cell 4 rfl;have f1:=s4.frozen 1;have f2:=s4.frozen 2;have f3:=s4.frozen 3;have f4:=s4.frozen 4;have H4:=Y2 k4 s4;clear hD hs iI hbc iy hb4 k4 s4
  go_wp2_with fail
  go_ret;obtain⟨hD,hs,iI,hbc,iy,-⟩:=HW.out;obtain⟨p1,p2⟩:=moved H4.out.2 0 0 0 false;have kk:=(H4.out.1.mono fun _ _ h=>h.elim).trans p2 fun k h=>.inl h
  exact⟨rfl,T,hD.keep kk fun k h e=>hbc.1 (e▸h),⟨0,0,0,p1⟩,kk.mono fun k _ e=>.inr (.inr e),fun k h=>.inl h,fun k h=>⟨iI k h,fun e=>hbc.2 (e▸h),aa (iy k h) kk.size⟩⟩
 |cons e r=>
  have hnx:=vg hD hR iI hss hx (by simpa using hl) (Xu (hok e (by simp)));have hun:=fun W=>iJ.calls _ _ _ _ _ W (L9 (hok e (by simp)))
  have HW:=Y5 hs iI hbc hR.lt hun;have hDl:∀k,D k->k<w.heap.size:=fun k h=>hD.lt h
  clear hD hs hR iI hbc hun hx;generalize hpe:pk e=p at*;go_enter ef,dy
  go_wp2_with fail
  refine hnx.mono ?_;clear hnx;rintro e1 w2 ⟨rfl,T2,hD2,hR2,d_,IJ⟩;have H2:=Y4 hD2 hR2 d_ IJ;clear hD2 hR2 d_ IJ
  go_wp2_with fail
  refine(HW.out.2.2.2.2 _).mono ?_;rintro e1 w4 ⟨rfl,hb4⟩;obtain⟨hs,iI,hbc,iy,-⟩:=HW.out;obtain⟨hD2,hR2,d_,IJ⟩:=H2.out;have kA:Keeps (fun _=>False) w2 w4:=((Keeps.refl _ w2).alloc (.cells #[.int .u64 p.1,.int .u64 p.2] 283 (0,0))).below hb4;have k4:=d_.1.trans kA fun _ h=>h.elim
  have adr:¬jC D T bc:=fun h=>h.elim hbc.1 hbc.2
  have s4:=hs.keep k4 adr;have d1:=s4.cell 1 rfl;have d2:=s4.cell 2 rfl;have d3:=s4.cell 3 rfl;have d4:=s4.cell 4 rfl;have f1:=s4.frozen 1;have f2:=s4.frozen 2;have f3:=s4.frozen 3;have f4:=s4.frozen 4;have H4:=Y3 k4 s4 kA;clear hs iI hbc iy hb4 k4 s4 hD2 hR2 d_ IJ kA adr
  go_wp2_with fail
  go_ret;obtain⟨hs,iI,hbc,iy,-⟩:=HW.out;obtain⟨hD2,hR2,d_,IJ⟩:=H2.out;obtain⟨p1,p2⟩:=moved H4.out.2.1 e.a e.b e.c true;have kB:=(H4.out.2.2.mono fun _ _ h=>h.elim).trans p2 fun k h=>.inl h
  have rM:∀k,T2 k->T k∨w.heap.size<=k:=fun k h=>(d_.2 k (.inr h)).elim (fun hh=>.inl (hh.elim (fun hd=>(IJ k h hd).elim) id)) .inr
  have hnb:∀k,T2 k->k≠bc:=fun k h e=>by
   subst e;rcases rM k h with hh|hh
   .exact hbc.2 hh
   .omega
  refine⟨rfl,T2,hD2.keep kB fun k h e=>hbc.1 (e▸h),⟨p1,s,hR2.keep kB fun k h e=>hnb k h e,hss⟩,?_,rM,fun k h=>⟨IJ k h,hnb k h,aa (hR2.lt k h) kB.size⟩⟩;refine(d_.1.mono (S':=fun k=>D k∨T k∨k=bc) fun k _ h=>h.elim .inl fun h=>.inr (.inl h)).trans kB fun k e=>.inl (.inr (.inr e))
structure SP where
 L:Option eo
 cl:Nat
 gE:Nat
 ce:Nat
structure lH (w0 wr:al) (D:Nat->Prop) (b bs:Nat) (sp:SP) (room c:Nat) (F:Files) (lab:Nat->Nat) (bg:Bool) (at_:Nat) (ends:List Int) (cs:List (Nat×Nat)) (g:Nat->Bool) (R:List (List Ed)):Prop where
 disk:aV wr (fun k=>lab k=1) b room F c
 st:∃es',St wr bs 345 [.slice sp.L cs.length sp.cl,.slice (some ⟨sp.gE,1,none⟩) ends.length sp.ce,.int .i64 (at_:Nat),.int .i64 0,.bool bg]∧wr.ownsRow 0 346 1 (.slice sp.L cs.length sp.cl) cs.length (cs.map fun x=>Ptr x.1)∧(∀a,sp.L=some a->lab a.block=2)∧
  wr.heap[sp.gE]? =some (.cells es' 3 (0,0))∧lab sp.gE=2∧ends.length<=sp.ce∧∀(i:Nat) (x:Int),ends[i]? =some x->es'[i+1]? =some (.int .i64 x)
 lbs:lab bs=2
 mR:(cs.map (·.1)).Nodup
 len:R.length=cs.length
 cur:∀(i:Nat) (x:Nat×Nat) (r:List Ed),cs[i]? =some x->R[i]? =some r->lab x.1=2∧(g i=true->lM wr (fun k=>lab k=i+4) b x.1 x.2 r)∧(g i=false->Bu wr (fun k=>lab k=i+4) b F x.1 x.2 r)
 ok:∀r∈R,∀e∈r,e.ok 12
 bd:∀k,lab k≠0->k<wr.heap.size
 keep:Keeps D w0 wr
 Bo:∀k,lab k=1->D k∨w0.heap.size<=k
 fr:∀k,lab k≠0->lab k≠1->w0.heap.size<=k
def Chg(lab:Nat->Nat)(k:Nat):Prop:=lab k≠0∧lab k≠3
theorem QV{l:List Nat}(h:l.Nodup){a:Nat}(h1:l[i]? =some a)(h2:l[j]? =some a):i=j:=by
 obtain⟨l1,e1⟩:=ae.1 h1;obtain⟨l2,e2⟩:=ae.1 h2;have hp:=cd.1 h;rcases Nat.lt_trichotomy i j with hh|hh|hh
 .exact absurd (e1.trans e2.symm) (hp i j l1 l2 hh)
 .exact hh
 .exact absurd (e2.trans e1.symm) (hp j i l2 l1 hh)
section
variable {w0 wr w':al} {D:Nat->Prop} {b bs:Nat} {sp:SP} {room c:Nat} {F:Files} {lab:Nat->Nat} {bg:Bool} {at_:Nat} {ends:List Int} {cs:List (Nat×Nat)} {g:Nat->Bool} {R:List (List Ed)}
theorem lH.congr{g':Nat->Bool}(h:lH w0 wr D b bs sp room c F lab bg at_ ends cs g R)(hg:∀i,i<cs.length->g i=g' i):lH w0 wr D b bs sp room c F lab bg at_ ends cs g' R:=by
 refine{h with cur:=fun i x r hx hr=>?_};rw[<-hg i (ae.1 hx).1];exact h.cur i x r hx hr
theorem lH.rP{S:Nat->Prop}(h:lH w0 wr D b bs sp room c F lab bg at_ ends cs g R)(hk:Keeps S wr w')(hS:∀k,lab k≠0->¬S k)(hS2:∀k,S k->w0.heap.size<=k):lH w0 w' D b bs sp room c F lab bg at_ ends cs g R:=by
 obtain⟨h1,⟨es',s1,s2,s3,s4,s5,s6,s7⟩,h3,h4,h5,h6,h7,h8,h9,h10,h11⟩:=h;have hn:∀{j i:Nat},j≠0->lab i=j->¬S i:=fun hj e=>hS _ (by omega)
 refine⟨h1.keep hk fun k e=>hn (by decide) e,⟨es',s1.keep hk (hn (by decide) h3),hk.own s2 fun k e=>?_,s3,(hk.at_ (ag.1 s4).1 (hn (by decide) s5)).trans s4,s5,s6,s7⟩,h3,h4,h5,fun i x r hx hr=>?_,h7,fun k hk'=>aa (h8 k hk') hk.size,h9.trans hk fun k hk'=>.inr (hS2 k hk'),h10,h11⟩
 .obtain⟨a,ha⟩:∃a,sp.L=some a:=by
   cases hL:sp.L with
   |none=>rw[hL]at e;cases e
   |some a=>exact⟨a,rfl⟩
  rw[ha]at e;have e:a.block=k:=by simpa[Value.ownBlock]using e
  subst e;exact hn (by decide) (s3 a ha)
 .obtain⟨p1,p2,p3⟩:=h6 i x r hx hr;exact⟨p1,fun e=>(p2 e).keep hk (hn (by decide) p1) fun k e=>hn (by omega) e,fun e=>(p3 e).keep hk (hn (by decide) p1) fun k e=>hn (by omega) e⟩
variable {i:Nat}{x:Nat×Nat}
theorem lH.cst(h:lH w0 wr D b bs sp room c F lab bg at_ ends cs g R)(hx:cs[i]? =some x):∃vs,St wr x.1 348 vs:=by
 have hi:=(ae.1 hx).1;obtain⟨r,hr⟩:∃r,R[i]? =some r:=⟨_,ai (by rw[h.len];exact hi)⟩
 obtain⟨p1,p2,p3⟩:=h.cur i x r hx hr;cases hg:g i with
 |true=>
  have q:=p2 hg;cases r with
  |nil=>obtain⟨_,_,_,q⟩:=q;exact⟨_,q⟩
  |cons e r=>exact⟨_,q.1⟩
 |false=>
  obtain⟨_,_,_,_,_,_,q,_⟩:=p3 hg;exact⟨_,q⟩
variable {r:List Ed}
theorem lH.take(h:lH w0 wr D b bs sp room c F lab bg at_ ends cs g R){e:Ed}(hx:cs[i]? =some x)(hr:R[i]? =some (e::r))(hg:g i=true):lH w0 wr D b bs sp room c F lab bg at_ ends cs (upd g i false) (R.set i r):=by
 have hi:=(ae.1 hx).1;refine{h with len:=by rw[List.length_set];exact h.len,cur:=fun j y s hy hs=>?_,ok:=fun s hs e' he=>?_}
 .by_cases hj:j=i
  .subst hj;rw[List.getElem?_set_self (by rw[h.len];exact hi)]at hs;injection hs with hs;rw[hx]at hy;injection hy with hy;subst hs hy;obtain⟨p1,p2,p3⟩:=h.cur j x _ hx hr;exact⟨p1,fun e=>(by rw[upd_same]at e;cases e),fun _=>(p2 hg).hold⟩
  .rw[List.getElem?_set_ne (Ne.symm hj)]at hs;rw[aM _ _ hj];exact h.cur j y s hy hs
 .rcases List.mem_or_eq_of_mem_set hs with hs|rfl
  .exact h.ok s hs e' he
  .exact h.ok _ (an hr) e' (cY _ he)
theorem lH.moves(h:lH w0 wr D b bs sp room c F lab bg at_ ends cs g R)(hx:cs[i]? =some x)(hr:R[i]? =some r)(hg:g i=false)(hl:r.length<=49):
 bk ab 262 #[Ptr x.1] wr fun e w'=>e=.returned (.int .i64 0)∧∃lab',lH w0 w' D b bs sp room c F lab' bg at_ ends cs (upd g i true) R∧Keeps (Chg lab) wr w'∧(∀k,k<wr.heap.size->lab k=0->lab' k=0)∧(fun k=>lab' k=3)=fun k=>lab k=3:=by
 obtain⟨p1,-,p3⟩:=h.cur i x r hx hr;refine(Vf h.disk (p3 hg) (fun k h1 h2=>by omega) ⟨fun e=>by omega,fun e=>by omega⟩ hl (h.ok r (an hr))).mono ?_;rintro e w' ⟨rfl,T',hD,hRd,hk,hT1,rM⟩;refine⟨rfl,dR lab (i+4) T',?_,hk.mono fun k _ hh=>?_,fun k hk' h0=>iL h0 fun hh=>(hT1 k hh).elim (fun hh=>by omega) fun hh=>by omega,eY (fun k hk=>(hT1 k hk).imp id fun h2=>cm fun h3=>by have:=h.bd k h3;omega) (by decide) (by omega)⟩
 .have hS:=fun k hk=>(hT1 k hk).imp id fun h2=>cm fun h3=>by have:=h.bd k h3;omega
  have e0:=fC (lab:=lab) (i:=i+4) (S:=T') (by omega);have ej:=fun j (h1:j≠0) (h2:j≠i+4)=>eY (lab:=lab) hS h1 h2
  have Sm:=fun j h1 h2 k hh=>(congrFun (ej j h1 h2) k).mpr hh
  have nk:∀{k j:Nat},lab k=j->j≠1->j≠i+4->k≠x.1->¬(lab k=1∨lab k=i+4∨k=x.1):=fun hj h1 h2 h3 hh=>by rcases hh with hh|hh|hh<;>omega
  obtain⟨h1,⟨es',s1,s2,s3,s4,s5,s6,s7⟩,h3,h4,h5,h6,h7,h8,h9,h10,h11⟩:=h;obtain⟨vs,q⟩:∃vs,St wr x.1 348 vs:=by
   obtain⟨_,_,_,_,_,_,q,_⟩:=p3 hg;exact⟨_,q⟩
  refine⟨?_,⟨es',s1.keep hk (nk h3 (by decide) (by omega) fun e=>s1.ne q (by decide) e),hk.own s2 fun k e=>?_,fun a e=>Sm 2 (by decide) (by omega) _ (s3 a e),(hk.at_ (ag.1 s4).1 (nk s5 (by decide) (by omega) fun e=>?_)).trans s4,Sm 2 (by decide) (by omega) _ s5,s6,s7⟩,Sm 2 (by decide) (by omega) _ h3,h4,h5,fun j y s hy hs=>?_,h7,fun k hk'=>?_,h9.trans hk fun k hh=>?_,fun k hh=>?_,fun k hh1 hh2=>?_⟩
  .rw[ej 1 (by decide) (by omega)];exact hD
  .have hb:=q.own_ne s2 (by decide) k e;obtain⟨a,ha⟩:∃a,sp.L=some a:=by
    cases hL:sp.L with
    |none=>rw[hL]at e;cases e
    |some a=>exact⟨a,rfl⟩
   rw[ha]at e;have e:a.block=k:=by simpa[Value.ownBlock]using e
   subst e;exact nk (s3 a ha) (by decide) (by omega) hb
  .unfold St at q;rw[e,q]at s4;injection s4 with s4;injection s4 with _ s4;cases s4
  .by_cases hj:j=i
   .subst hj;rw[hx]at hy;injection hy with hy;subst hy;rw[hr]at hs;injection hs with hs;subst hs;refine⟨Sm 2 (by decide) (by omega) _ p1,fun _=>?_,fun e=>by rw[upd_same]at e;cases e⟩;rw[e0];exact hRd
   .obtain⟨p1',p2',p3'⟩:=h6 j y s hy hs;have hne:y.1≠x.1:=fun e=>hj (cm fun hc=>by
     have h1:(cs.map (·.1))[j]? =some y.1:=by rw[ar,hy];rfl
     have h2:(cs.map (·.1))[i]? =some x.1:=by rw[ar,hx];rfl
     exact hc (QV h4 h1 (e▸h2)))
    rw[aM _ _ hj,ej (j+4) (by omega) (by omega)];refine⟨Sm 2 (by decide) (by omega) _ p1',fun e=>(p2' e).keep hk (nk p1' (by decide) (by omega) hne) fun k e=>nk e (by omega) (by omega) fun e'=>by subst e';omega,fun e=>(p3' e).keep hk (nk p1' (by decide) (by omega) hne) fun k e=>nk e (by omega) (by omega) fun e'=>by subst e';omega⟩
  .rcases dU hk' with⟨h1,_⟩|⟨h1,_⟩
   .exact(rM k h1).2.2
   .exact aa (h8 k h1) hk.size
  .rcases hh with hh|hh|hh
   .exact h10 k hh
   .exact .inr (h11 k (by omega) (by omega))
   .subst hh;exact .inr (h11 _ (by omega) (by omega))
  .exact h10 k ((congrFun (ej 1 (by decide) (by omega)) k).mp hh)
  .rcases dU hh1 with⟨h3,_⟩|⟨h3,h4⟩
   .rcases hT1 k h3 with h5|h5
    .exact h11 k (by omega) (by omega)
    .have:=h9.size;omega
   .exact h11 k h3 (by rw[<-h4];exact hh2)
 .unfold Chg;rcases hh with hh|hh|hh
  .omega
  .omega
  .subst hh;omega
end
def box:ByteArray:=⟨#[98,111,120]⟩
def F9(k:Nat):List ByteArray:=(List.range k).map fun i=>rn box (i+1)
theorem o9(k:Nat):(F9 k).length=k:=by simp[F9]
theorem QW(k:Nat):F9 (k+1)=F9 k++[rn box (k+1)]:=by simp[F9,List.range_succ]
def pF(w:al)(T:Nat->Prop)(bx b bF:Nat)(M:List Rc)(k:Nat):Prop:=
 ∃m v,St w bx 316 (Xo b box bF m k v)∧lD w m M∧w.ownsRow 0 9 1 v (F9 k).length (strs (F9 k))∧T bx∧T m∧(∀j,v.ownBlock=some j->T j)∧∀j,T j->j<w.heap.size
theorem pF.keep{S T:Nat->Prop}{w w':al}{bx b bF k:Nat}{M:List Rc}(h:pF w T bx b bF M k)(hk:Keeps S w w')(hS:∀j,T j->¬S j):pF w' T bx b bF M k:=by
 obtain⟨m,v,h1,h2,h3,h4,h5,h6,h7⟩:=h;exact⟨m,v,h1.keep hk (hS _ h4),h2.keep hk (hS _ h5),hk.own h3 fun j e=>hS j (h6 j e),h4,h5,h6,fun j hj=>aa (h7 j hj) hk.size⟩
variable {b base bF bx c c0 k n room:Nat}
theorem yV(hk:k<100):0<(rn box k).size∧(rn box k).size<=24:=by
 have:=nL k hk;have e:(rn box k).size=4+(itoa k).size:=by unfold rn;rw[bb];rfl
 omega
variable {w:al}{xs:List cq}
theorem mM{e size cp m:Nat}{A:Option eo}(h:w.ownsRow base e size (.slice A m cp) n xs):n<=cp:=by
 rcases h.2 with⟨h,h0⟩|⟨g,cap,cur,h,h2,h3,h4,_⟩
 .omega
 .injection h with _ _ h;omega
variable {A M zs:List Rc}{D T:Nat->Prop}{F:Files}
theorem Vg(hD:aV w D b room F c)(hB:pF w T bx b bF M k)(iI:∀j,T j->¬D j)(hl:M.length<=49)(hk:k+1<100)(hx:F (nf box (k+1))=none)(hroom:c+(M.length+2)<=room)(hc:c<100000):
 bk ab 272 #[.pointer (some ⟨bx,0,none⟩)] w fun e w'=>e=.returned (.int .i64 0)∧∃D' T' c' zs,aV w' D' b room (upd F (nf box (k+1)) (some (fileOf zs))) c'∧zs.Perm M∧pF w' T' bx b bF [] (k+1)∧Stp (jC D T) (jC D' T') w w'∧(∀j,T' j->¬D' j)∧∀j,T' j->T j∨w.heap.size<=j:=by
 obtain⟨k1,hk1⟩:=ex (k+1)
 rw[<-hk1]at hk hx⊢;obtain⟨m,v,hs,hM,ho,CV,L_,oV,iy⟩:=hB;have c0:=hs.cell 0 rfl;have c1:=hs.cell 1 rfl;have c6:=hs.cell 6 rfl;have hw:cX.wrap ((k:Int)+1)=(k1:Nat):=by rw[cA,hk1];omega
 have e1:=lu box ⟨#[46]⟩ (by have:(⟨#[46]⟩:ByteArray).size=1:=rfl;have:box.size=3:=rfl;omega);have e2:=lu (box++⟨#[46]⟩) (itoa k1) (by have:=nL k1 hk;rw[bb];have:(⟨#[46]⟩:ByteArray).size=1:=rfl;have:box.size=3:=rfl;omega);rw[show(box++⟨#[46]⟩)++itoa k1=rn box k1 from rfl]at e2;have hbs:=yV hk;have HK:=Y1 (show F9 k1=F9 k++[rn box k1] by rw[hk1,QW]);have ahW:k<99:=by omega
 clear hk1;obtain⟨lU,uF⟩:=ex (rn box k1)
 have HN:=Y1 uF;rw[<-uF]at e2 hbs;have HW:=Y6 hD hs hM ho iI hx;clear hD hs hM ho iI hx uF;go_enter func272,ntmps272
 go_wp2_with fail
 go_quiet (first|(go_at_call 61;exact Calls.quiet_of_same (qy _ k1 hk)))
 go_wp2_with fail
 obtain⟨w1,hw1⟩:=ex (w.drewN nq)
 have k1:Keeps (fun _=>False) w w1:=by rw[hw1];exact(Keeps.refl _ w).drewN nq
 rw[<-hw1];have q0:∀w',Below w1.heap.size w1 w'->w'.cell? ⟨bx,0,none⟩=some (.pointer (some ⟨b,0,none⟩)):=fun w' h=>(k1.below h).cell c0 id
 have HQ:=Y2 q0 k1;clear q0 k1 hw1 c0 c1 c6 e1 e2;refine gF (Below w1.heap.size w1) [0,1,2,4,5] [3] [6] [] [7,8] (by kernel_rfl) (fun _ _ x _ _ h=>by cases x<;>exact h) ((cz _ w1).drew) (by kernel_rfl) ?_;simp only[aJ,az,aE,ao,aq]
 repeat (refine aI (fun K hK=>?_);go_simp;refine hK _ ?_;clear hK K)
 refine au ?_;refine ak (fun K hK=>?_);go_simp;refine⟨_,fun w' hw'=>(by rw[HQ.out.1 w' hw'];rfl),hK _ ?_⟩;clear hK K;refine bD ?_;intro V hb0;have HB0:=Y1 hb0;clear hb0;refine aH (fun K hK=>?_);go_simp;have kV:=HQ.out.2.below HB0.out;refine(EY (HW.out.2.1.keep kV id) (HW.out.2.2.1.keep kV id) (by omega)).mono ?_;rintro e V1 ⟨v1,rfl,l1,ho1,hp1,hb1⟩;refine hK _ _ (HB0.out.trans (hb1.mono HB0.out.size)) ?_;clear hK K;refine aQ ?_;refine au ?_;obtain⟨A1,cp1,rfl⟩:=aW ho1;obtain⟨hD,hs,hM,ho,iI,hx⟩:=HW.out;have k2:=kV.below hb1;have hA1:∀a,A1=some a->V.heap.size<=a.block∧a.block<V1.heap.size:=fun a e=>by
  subst e;obtain⟨g,rfl,_⟩:=dZ ho1;exact⟨gB ho1 g rfl,bJ ho1 g rfl⟩
 have hwr:=Ct (hD.keep k2 fun _ _=>id) hbs.1 hbs.2 (by rw[HN.out];exact hx) hp1.length_eq (mM ho1) (Cls.own ho1) (fun a e=>⟨(hA1 a e).2,fun h=>by have:=hD.lt h;have:=(hA1 a e).1;have:=kV.size;omega⟩) (by have:=hp1.length_eq;omega) (by have:=hp1.length_eq;omega) hc;have H1:=Y2 hp1 k2;clear hD hs hM ho iI hx ho1 hp1 hb1 kV k2 hA1
 go_wp2_with fail
 refine hwr.mono ?_;clear hwr;rintro e w4 ⟨rfl,D4,c4,hD4,hc4,kC⟩;obtain⟨hD,hs,hM,ho,iI,hx⟩:=HW.out;have k4:=(H1.out.2.mono fun _ _ h=>h.elim).trans kC.1 fun i h=>.inl h
 have nD:=iI;have s4:=hs.keep k4 (nD _ CV);have M4:=hM.keep k4 (nD _ L_);have o4:=k4.own ho fun j e=>nD _ (oV j e)
 have c60:=s4.cell 6 rfl;have f60:=s4.frozen 6;have s5:St (w4.setCell ⟨bx,6,none⟩ (.int .i64 (k1:Nat))) bx 316 (Xo b box bF m k1 v):=s4.set 6 _;have k5:Keeps (fun j=>j=bx) w4 (w4.setCell ⟨bx,6,none⟩ (.int .i64 (k1:Nat))):=(Keeps.refl (fun j=>j=bx) w4).setCell (a:=⟨bx,6,none⟩) (.inl rfl) _;have o5:=k5.own o4 fun j e e2=>s4.own_ne o4 (by decide) j e e2
 have c55:=s5.cell 5 rfl;have c05:=s5.cell 0 rfl;have f55:=s5.frozen 5;have M5:=M4.keep k5 (M4.at_.ne s4);obtain⟨A,cp,rfl⟩:=aW o5;generalize ZJ:w4.setCell ⟨bx,6,none⟩ (.int .i64 (k1:Nat))=W5 at*;obtain⟨v6,w6,hrun,o6,k6,n6,a6,Bj,rfl⟩:=kN lU o5 (by rw[o9];omega);have s6:=s5.keep k6 fun e=>s5.own_ne o5 (by decide) _ e rfl
 have M6:=M5.keep k6 fun e=>M5.at_.own_ne o5 _ e rfl
 have c56:=s6.cell 5 rfl;have f56:=s6.frozen 5;have s7:St (w6.setCell ⟨bx,5,none⟩ (.slice (some a6) ((F9 k).length+1) Bj)) bx 316 (Xo b box bF m k1 (.slice (some a6) ((F9 k).length+1) Bj)):=s6.set 5 _;have k7:Keeps (fun j=>j=bx) w6 (w6.setCell ⟨bx,5,none⟩ (.slice (some a6) ((F9 k).length+1) Bj)):=(Keeps.refl (fun j=>j=bx) w6).setCell (a:=⟨bx,5,none⟩) (.inl rfl) _;have o7:=k7.own o6 fun j e e2=>s6.own_ne o6 (by decide) j e e2
 have M7:=M6.keep k7 (M6.at_.ne s6);have c47:=s7.cell 4 rfl;obtain⟨W8,hcl,M8,t8⟩:=M7.clear 0;have k8:=(Keeps.refl T _).turned (.inl L_) t8;have s8:=s7.keep (show Keeps (fun j=>j=m) _ W8 from(Keeps.refl _ _).turned (.inl rfl) t8) fun e=>M7.at_.ne s7 e.symm
 have o8:=(show Keeps (fun j=>j=m) _ W8 from(Keeps.refl _ _).turned (.inl rfl) t8).own o7 fun j e e2=>M7.at_.own_ne o7 j e e2
 have kT:=(((k5.mono fun j _ e=>by rw[e];exact CV).trans k6 fun j e=>.inl (oV j e)).trans k7 fun j e=>.inl (by rw[e];exact CV)).trans k8 fun j h=>.inl h
 have Vh:∀j,T j->¬D4 j:=fun j h h2=>(kC.2 j h2).elim (nD j h) fun hh=>by have:=iy j h;have:=H1.out.2.size;omega
 have n6':=fun j e=>(n6 j e).imp (oV j) fun h=>ax k5.size h
 have HF:=Y1 (show ∃D' T' c' zs,aV W8 D' b room (upd F (nf box k1) (some (fileOf zs))) c'∧zs.Perm M∧pF W8 T' bx b bF [] k1∧Stp (jC D T) (jC D' T') w W8∧(∀j,T' j->¬D' j)∧∀j,T' j->T j∨w.heap.size<=j from by
  refine⟨D4,fun j=>T j∨Value.ownBlock (.slice (some a6) ((F9 k).length+1) Bj)=some j,c4,l1,?_,H1.out.1,⟨m,_,s8,M8,?_,.inl CV,.inl L_,fun j e=>.inr e,fun j h=>?_⟩,⟨?_,fun j h=>?_⟩,fun j h=>?_,fun j h=>?_⟩
  .rw[HN.out]at hD4;exact hD4.keep kT fun j h h2=>Vh j h2 h
  .rw[HK.out,<-HN.out];exact o8
  .rcases h with h|h
   .exact aa (iy j h) (ax k4.size kT.size)
   .exact bJ o8 j h
  .exact(k4.mono fun j _ h=>Or.inl h).trans kT fun j h=>.inl (.inr h)
  .rcases h with h|h|h
   .exact(kC.2 j h).imp .inl fun hh=>ax H1.out.2.size hh
   .exact .inl (.inr h)
   .exact(n6' j h).imp .inr fun hh=>ax k4.size hh
  .rcases h with h|h
   .exact Vh j h
   .exact(n6' j h).elim (Vh j) fun hh h2=>by have:=hD4.lt h2;omega
  .rcases h with h|h
   .exact .inl h
   .exact(n6' j h).imp id fun hh=>ax k4.size hh)
 clear hD hs hM ho iI hx k4 nD M4 s4 o4 s5 o5 M5 s6 M6 o6 k6 n6 s7 k7 o7 M7 M8 t8 k8 s8 o8 kT Vh n6' hD4 kC oV iy k5;subst ZJ
 go_wp2_with (at_builtin;refine dh rfl _ _ 86 86 rfl (by simp[cG]) (by simp[cG]) hrun ?_;clear hrun)
 go_ret;exact⟨rfl,HF.out⟩
theorem ZK(w:al)(b bF:Nat)(hb:1<=bF):
 bk ab 192 #[.pointer (some ⟨b,0,none⟩),.string box,.int .i64 (bF:Nat),.int .i64 2] w fun e w'=>∃bx T,e=.returned (.tuple #[.pointer (some ⟨bx,0,none⟩),.int .i64 0])∧pF w' T bx b bF [] 0∧Below w.heap.size w w'∧∀j,T j->w.heap.size<=j:=by
 have hmm:= @run_makeMap ab;have z0:¬(bF:Int)<1:=by omega
 go_enter func192,ntmps192
 go_wp2_with fail
 obtain⟨w1,hw1⟩:=ex (w.alloc (.map #[] 0))
 have hz:w1.heap.size=w.heap.size+1:=by rw[hw1];simp
 have k1:Keeps (fun _=>False) w w1:=by rw[hw1];exact(Keeps.refl _ w).alloc _
 have M1:lD w1 w.heap.size []:=by rw[hw1];exact lD.made w
 rw[<-hw1,<-hz];have s2:=St.new w1 316 #[.pointer (some ⟨b,0,none⟩),.string box,.int .i64 (bF:Nat),.int .i64 2,.map (some w.heap.size),.slice none 0 0,.int .i64 0];have k2:Keeps (fun _=>False) w1 (w1.alloc (.cells #[.pointer (some ⟨b,0,none⟩),.string box,.int .i64 (bF:Nat),.int .i64 2,.map (some w.heap.size),.slice none 0 0,.int .i64 0] 316 (0,0))):=(Keeps.refl _ _).alloc _;exact bodyPost_ret (results_tmp2 rfl _ _ _) rfl ⟨_,rfl,fun j=>j=w.heap.size∨j=w1.heap.size,⟨w.heap.size,_,s2,M1.keep k2 id,wP _ _ _ _,.inr rfl,.inl rfl,fun j e=>(by cases e),fun j h=>by have:=s2.lt;omega⟩,(k1.trans k2 fun _ h=>h.elim).eG fun _ _ h=>h,fun j h=>by omega⟩
theorem Bv(h:nU M)(k:Int):iq M k (look M k):=by
 cases hk:look M k with
 |none=>exact qR.1 hk
 |some v=>
  refine⟨qU hk,fun r hr e=>?_⟩;have:=uw h hr;rw[e,hk]at this;injection this with this;omega
theorem Ma(h:nU M)(k v:Int):nU (sF M k v):=by
 unfold nU;rw[Bc];exact h
theorem QX{k v x:Int}(h:nU M)(hk:look M k=some v):sD (sF M k (min v x)) (M++[(k,x)]):=by
 intro j o ho;have e:=ho.unique (Bv (Ma h k (min v x)) j);subst e;have h1:=Bv h j;by_cases hj:j=k
 .subst hj;rw[qw hk];rw[hk]at h1;exact h1.append (b:=some x) ⟨by simp,fun r hr _=>by simp at hr;subst hr;exact Int.le_refl _⟩
 .rw[pE hj];have h2:=h1.append (B:=[(k,x)]) (b:=none) fun r hr e=>by simp at hr;subst hr;exact hj e.symm
  cases hl:look M j with
  |none=>rw[hl]at h2;exact h2
  |some y=>rw[hl]at h2;exact h2
structure BF (F F':Files) (gI:List (List Rc)):Prop where
 at_:∀i zs,gI[i]? =some zs->F' (nf box (i+1))=some (fileOf zs)
 other:∀x,(∀i,i<gI.length->x≠nf box (i+1))->F' x=F x
theorem BF.nil(F:Files):BF F F []:=⟨fun i zs h=>by simp at h,fun _ _=>rfl⟩
theorem QY(i:Nat):nf box i=[98,111,120,46]++lQ i:=by unfold nf rn;rw[eT,eT];rfl
theorem o_{i j:Nat}(hi:i<100)(hj:j<100)(h:nf box i=nf box j):i=j:=by
 rw[QY,QY]at h;exact qX hi hj (cJ h)
variable {gI:List (List Rc)}
theorem BF.add{F':Files}(h:BF F F' gI)(hl:gI.length<98):BF F (upd F' (nf box (gI.length+1)) (some (fileOf zs))) (gI++[zs]):=by
 refine⟨fun i ys hi=>?_,fun x hx=>?_⟩
 .by_cases hik:i<gI.length
  .rw[a_ hik]at hi;rw[aM _ _ fun e=>by have:=o_ (by omega) (by omega) e;omega];exact h.at_ i ys hi
  .rw[bz (by omega)]at hi;obtain rfl:i=gI.length:=by
    have:=(ae.1 hi).1;simp at this;omega
   rw[cM]at hi;obtain rfl:zs=ys:=by simpa using hi
   exact upd_same _ _ _
 .rw[aM _ _ (hx gI.length (by simp))];exact h.other x fun i hi=>hx i (by simp;omega)
structure wO (w:al) (D T:Nat->Prop) (b bx bF room c0:Nat) (F:Files) (A:List Rc):Prop where
 ex:∃M gI F' c,aV w D b room F' c∧pF w T bx b bF M gI.length∧BF F F' gI∧sD (M++gI.flatten) A∧M.length+gI.flatten.length<=A.length∧(∀zs∈gI,zs≠[]∧∀r∈zs,Wf r)∧c<=c0+3*gI.flatten.length
 sep:∀j,T j->¬D j
theorem uK(h:∀zs∈gI,zs≠[]∧∀r∈zs,Wf r):gI.length<=gI.flatten.length:=by
 induction gI with
 |nil=>simp
 |cons z gI ih=>
  have h1:=ih fun zs hz=>h zs (cY _ hz)
  have h2:=c_.2 (h z (by simp)).1;simp only[cI,aw,ca];omega
def Vi(w W:al)(D T:Nat->Prop)(b bx bF room c0:Nat)(F:Files)(A:List Rc)(r:Rc):Prop:=
 ∃D1 T1 M1 Mc F1 c1,aV W D1 b room F1 c1∧pF W T1 bx b bF M1 Mc.length∧(∀j,T1 j->¬D1 j)∧BF F F1 Mc∧sD (M1++Mc.flatten) A∧M1.length+Mc.flatten.length<=A.length∧(∀zs∈Mc,zs≠[]∧∀r∈zs,Wf r)∧c1<=c0+3*Mc.flatten.length∧look M1 r.1=none∧Stp (jC D T) (jC D1 T1) w W∧(∀j,T1 j->T j∨w.heap.size<=j)∧St W w.heap.size 283 [.int .u64 r.1,.int .u64 r.2]
variable {r:Rc}
theorem Vi.store{W:al}(h:Vi w W D T b bx bF room c0 F A r)(hA:A.length<=40)(hr:Wf r):
 ∃m,W.cell? ⟨bx,4,none⟩=some (.map (some m))∧W.cell? ⟨w.heap.size,0,none⟩=some (.int .u64 r.1)∧W.cell? ⟨w.heap.size,1,none⟩=some (.int .u64 r.2)∧∀n,∃w5,(Instr.mapUpdate 314 (.map (some m)) (.int .u64 r.1) (.int .u64 r.2)).run ab (W.drewN n)=.ok () w5∧∃D' T',wO w5 D' T' b bx bF room c0 F (A++[r])∧Stp (jC D T) (jC D' T') w w5∧∀j,T' j->T j∨w.heap.size<=j:=by
 obtain⟨D1,T1,M,gI,F1,c1,hD,⟨m,v,hs,hM,ho,CV,L_,oV,iy⟩,hsep,hF,hT,hl,hz,hcc,hlo,hst,hT1,hs2⟩:=h;refine⟨m,hs.cell 4 rfl,hs2.cell 0 rfl,hs2.cell 1 rfl,fun n=>?_⟩;have k3:Keeps (fun _=>False) W (W.drewN n):=(Keeps.refl _ W).drewN n;obtain⟨w3,hrun,M3,t3⟩:=(hM.keep k3 id).new (by omega) (k:=r.1) (v:=r.2) hr hlo;have k4:=(k3.mono fun _ _ h=>h.elim).trans ((Keeps.refl T1 _).turned (.inl L_) t3) fun j h=>.inl h
 have kk:Keeps (fun j=>j=m) (W.drewN n) w3:=(Keeps.refl _ _).turned (.inl rfl) t3;have kd:=(k3.mono fun _ _ h=>h.elim).trans kk fun j h=>.inl h
 refine⟨w3,hrun,D1,T1,⟨⟨M++[(r.1,r.2)],gI,F1,c1,hD.keep k4 fun j h h2=>hsep j h2 h,⟨m,v,hs.keep kd fun e=>hM.at_.ne hs e.symm,M3,kd.own ho fun j e e2=>hM.at_.own_ne ho j e e2,CV,L_,oV,fun j h=>aa (iy j h) kd.size⟩,hF,?_,?_,hz,hcc⟩,hsep⟩,⟨hst.1.trans k4 fun j h=>?_,fun j h=>hst.2 j h⟩,hT1⟩
 .refine sD.trans (sD.perm ?_) (hT.append (sD.refl [r]));rw[bt,bt];exact List.Perm.append_left _ cy
 .simp only[aw,cU];omega
 .exact hst.2 j (.inr h)
theorem ZL(h:wO w D T b bx bF room c0 F A)(hfree:∀i,1<=i->i<100->F (nf box i)=none)(hA:A.length<=40)(hr:Wf r)(hb:1<=bF)(hroom:c0+3*A.length+3<=room)(hc:c0<90000):
 bk ab 250 #[.pointer (some ⟨bx,0,none⟩),rg r] w fun e w'=>e=.returned (.int .i64 0)∧∃D' T',wO w' D' T' b bx bF room c0 F (A++[r])∧Stp (jC D T) (jC D' T') w w'∧∀j,T' j->T j∨w.heap.size<=j:=by
 obtain⟨⟨M,gI,F',c,hD,hB,hF,hT,hl,hz,hcc⟩,hsep⟩:=h;have hzl:=uK hz;have hB0:=hB;obtain⟨m,v,hs,hM,ho,CV,L_,oV,iy⟩:=hB;obtain⟨w1,hw1⟩:=ex (w.alloc (.cells #[.int .u64 r.1,.int .u64 r.2] 283 (0,0)))
 have k1:Keeps (fun _=>False) w w1:=by rw[hw1];exact(Keeps.refl _ w).alloc _
 have s1:St w1 w.heap.size 283 [.int .u64 r.1,.int .u64 r.2]:=by rw[hw1];exact St.new _ _ _
 have c0':=s1.cell 0 rfl;have c4:=(hs.keep k1 id).cell 4 rfl;have hlk:=fun n=>((hM.keep k1 id).keep ((Keeps.refl (fun _=>False) w1).drewN n) id).look hr.1
 have HW:=Y9 hD hB0 hF hT hz hs hM k1 s1;have HO:=Y3 ho oV iy;clear hD hB0 hF hT hz hs hM ho k1 s1 oV iy;unfold rg;go_enter func250,ntmps250
 go_wp2_with fail
 rw[<-hw1];clear hw1
 go_quiet (fail)
 obtain⟨w2,hw2⟩:=ex (w1.drewN nq)
 rw[<-hw2];have k2:Keeps (fun _=>False) w w2:=by rw[hw2];exact HW.out.2.2.2.2.2.2.2.1.drewN nq
 have s2:St w2 w.heap.size 283 [.int .u64 r.1,.int .u64 r.2]:=by rw[hw2];exact HW.out.2.2.2.2.2.2.2.2
 clear hlk c0' c4 hw2;have c0':=s2.cell 0 rfl;have c1':=s2.cell 1 rfl;have t2:=HW.out.2.2.2.2.2.1.keep k2 id;have c4:=t2.cell 4 rfl;have c3:=t2.cell 3 rfl;have c2:=t2.cell 2 rfl;have hlen:=fun n=>((HW.out.2.2.2.2.2.2.1.keep k2 id).keep ((Keeps.refl (fun _=>False) w2).drewN n) id).len 3
 have H2:=Y2 k2 s2;clear k2 s2 t2;cases hlo:look M r.1 with
 |some v0=>
  have HL:=Y1 hlo;clear hlo hlen
  go_wp2_with fail
  refine dG [] [0,1,2,3,4,5,6,7,8,9,10,11,12,13] [14] (by kernel_rfl) (fun _ _ x _ _ h=>by cases x<;>exact h) (by kernel_rfl) ?_;simp only[aJ,az,aE,ao,aq];refine au ?_
  repeat quiet_step (first|(go_at_call 258;exact Calls.quiet_of_same (JK _ 2 _ _ (by decide))))
  refine wpQuiet_nil ?_;rintro _ ⟨nq2,rfl⟩;obtain⟨hD,hB0,hF,hT,hz,hs,hM,k1,s1⟩:=HW.out;have k3:=H2.out.1.drewN nq2;have hv0:=hM.wf _ (qU HL.out);obtain⟨w3,hrun,M3,t3⟩:=(hM.keep k3 id).old (by omega) (v:=min v0 r.2) ⟨hr.1,by have:=hr.2;have:=hv0.2;dsimp only at *; omega⟩ HL.out;have k4:=(k3.mono fun _ _ h=>h.elim).trans ((Keeps.refl T _).turned (.inl L_) t3) fun j h=>.inl h
  have HF:=Y1 (show ∃D' T',wO w3 D' T' b bx bF room c0 F (A++[r])∧Stp (jC D T) (jC D' T') w w3∧∀j,T' j->T j∨w.heap.size<=j from by
   obtain⟨ho,oV,iy⟩:=HO.out;have kk:Keeps (fun j=>j=m) (w2.drewN nq2) w3:=(Keeps.refl _ _).turned (.inl rfl) t3;have kd:=(k3.mono fun _ _ h=>h.elim).trans kk fun j h=>.inl h
   refine⟨D,T,⟨⟨sF M r.1 (min v0 r.2),gI,F',c,hD.keep k4 fun j h h2=>hsep j h2 h,⟨m,v,hs.keep kd fun e=>hM.at_.ne hs e.symm,M3,kd.own ho fun j e e2=>hM.at_.own_ne ho j e e2,CV,L_,oV,fun j h=>aa (iy j h) kd.size⟩,hF,?_,?_,hz,hcc⟩,hsep⟩,⟨k4.mono fun _ _ h=>.inr h,fun j h=>.inl h⟩,fun j h=>.inl h⟩
   .refine((QX hM.mR HL.out).append (sD.refl gI.flatten)).trans (sD.trans (sD.perm ?_) (hT.append (sD.refl [r])));rw[bt,bt];exact List.Perm.append_left _ cy
   .have:(sF M r.1 (min v0 r.2)).length=M.length:=by simp[sF]
    rw[this,aw];omega)
  clear hD hB0 hF hT hz hs hM k1 s1 k3 hv0 M3 t3 k4
  go_wp2_with fail
  go_ret;exact⟨rfl,HF.out⟩
 |none=>
  have HL:=Y1 hlo;clear hlo
  go_wp2_with fail
  go_quiet (fail)
  obtain⟨w3,hw3⟩:=ex (w2.drewN nq)
  rw[<-hw3];have k3:Keeps (fun _=>False) w w3:=by rw[hw3];exact H2.out.1.drewN nq
  have s3:St w3 w.heap.size 283 [.int .u64 r.1,.int .u64 r.2]:=by rw[hw3];exact H2.out.2
  clear hlen c0' c1' c4 c3 c2 hw3;obtain⟨hD,hB0,hF,hT,hz,hs,hM,k1,s1⟩:=HW.out;have D3:=hD.keep k3 fun _ _=>id
  have B3:=hB0.keep k3 fun _ _=>id
  have z3:=s3.lt;have hDl:∀j,D j->j<w.heap.size:=fun j h=>hD.lt h
  have iy:=HO.out.2.2;by_cases hbu:bF<=M.length
  .have hsp:=Vg D3 B3 hsep (by omega) (by omega) (by
    rw[hF.other _ fun i hi e=>by have:=o_ (by omega) (by omega) e;omega];exact hfree _ (by omega) (by omega)) (by omega) (by omega)
   have H3:=Y5 k3 s3 D3 hDl iy;clear hD hB0 hF hT hz hs hM k1 s1 D3 B3 k3 s3 hDl iy
   go_wp2_with fail
   refine hsp.mono ?_;clear hsp;rintro e w4 ⟨rfl,D4,T4,c4,zs,hD4,Zi,hB4,kC,Xx,hT4⟩;have HS:=Y1 (show Vi w w4 D T b bx bF room c0 F A r from by
    obtain⟨hD,hB0,hF,hT,hz,hs,hM,k1,s1⟩:=HW.out;obtain⟨k3,s3,D3,hDl,iy⟩:=H3.out;have hc4:=D3.cost.bound (by
     rw[hF.other _ fun i hi e=>by have:=o_ (by omega) (by omega) e;omega];exact hfree _ (by omega) (by omega)) hD4.cost
    have hzn:zs≠[]:=fun e=>by have:=Zi.length_eq;rw[e]at this;simp at this;omega
    have hzp:=c_.2 hzn;have hpl:=Zi.length_eq;rw[iT,if_neg hzn]at hc4;have hfl:(gI++[zs]).flatten=gI.flatten++zs:=by simp
    refine⟨D4,T4,[],gI++[zs],_,c4,hD4,by simpa using hB4,Xx,hF.add (by omega),?_,?_,?_,?_,rfl,⟨(k3.mono fun _ _ h=>h.elim).trans kC.1 fun j h=>.inl h,fun j h=>(kC.2 j h).imp id fun hh=>ax k3.size hh⟩,fun j h=>(hT4 j h).imp id fun hh=>ax k3.size hh,?_⟩
    .rw[hfl];refine sD.trans (sD.perm ?_) hT;rw[cN];exact cy.trans (List.Perm.append_right _ Zi)
    .rw[hfl,aw];simp only[dp];omega
    .intro ys hys;rcases cD.1 hys with hys|hys
     .exact hz ys hys
     .simp at hys;subst hys;exact⟨hzn,fun r hr=>hM.wf r (Zi.subset hr)⟩
    .rw[hfl,aw,hc4];unfold sec;omega
    .exact s3.keep kC.1 fun h=>h.elim (fun h=>by have:=hDl _ h;omega) fun h=>by have:=iy _ h;omega)
   clear hD4 Zi hB4 kC Xx hT4
   go_wp2_with fail
   obtain⟨m4,d4,d0,d1,kC⟩:=HS.out.store hA hr
   go_wp2_with fail
   refine dG [] [0,1,2,3,4,5,6,7] [8] (by kernel_rfl) (fun _ _ x _ _ h=>by cases x<;>exact h) (by kernel_rfl) ?_;simp only[aJ,az,aE,ao,aq];refine au ?_
   repeat quiet_step (fail)
   refine wpQuiet_nil ?_;rintro _ ⟨nq2,rfl⟩;obtain⟨w5,hrun,hF5⟩:=kC nq2;have HF:=Y1 hF5;clear kC hF5
   go_wp2_with fail
   go_ret;exact⟨rfl,HF.out⟩
  .have HS:=Y1 (show Vi w w3 D T b bx bF room c0 F A r from⟨D,T,M,gI,F',c,D3,B3,hsep,hF,hT,hl,hz,hcc,HL.out,⟨k3.mono fun _ _ h=>h.elim,fun j h=>.inl h⟩,fun j h=>.inl h,s3⟩);clear hD hB0 hF hT hz hs hM k1 s1 D3 B3 k3 s3 hDl iy
   go_wp2_with fail
   obtain⟨m4,d4,d0,d1,kC⟩:=HS.out.store hA hr
   go_wp2_with fail
   refine dG [] [0,1,2,3,4,5,6,7] [8] (by kernel_rfl) (fun _ _ x _ _ h=>by cases x<;>exact h) (by kernel_rfl) ?_;simp only[aJ,az,aE,ao,aq];refine au ?_
   repeat quiet_step (fail)
   refine wpQuiet_nil ?_;rintro _ ⟨nq2,rfl⟩;obtain⟨w5,hrun,hF5⟩:=kC nq2;have HF:=Y1 hF5;clear kC hF5
   go_wp2_with fail
   go_ret;exact⟨rfl,HF.out⟩
variable {u v:cq}
theorem yX(t e:ek)(i:TypeInfo)(z:cq)(bytes:Nat)(ht:ab.underlying t=some (.slice e))(hi:ab.info? e=some i)(hz:i.zero=some z)(hsz:i.size=1)(hby:i.bytes=bytes)(hzs:z.cells.size=1)(hb:bytes<=1000)(ho:w.ownsRow 0 e 1 v xs.length xs)(hu:u.oneCell'=true)(hl:xs.length<1000000):
 ∃v' w',(ba #[t,t] t #[v,.slice (some ⟨w.heap.size,0,none⟩) 1 1]).run ab (w.alloc (.cells #[u] e (0,0)))=.ok v' w'∧
  w'.ownsRow 0 e 1 v' (xs++[u]).length (xs++[u])∧Keeps (fun k=>v.ownBlock=some k) w w'∧(∀k,v'.ownBlock=some k->v.ownBlock=some k∨w.heap.size<=k)∧∃a c,v'=.slice (some a) (xs.length+1) c:=by
 have hnew:=St.new w e #[u];have hmul:(xs.length+1)*bytes<=1000000*1000:=dt (by omega) hb;obtain⟨v',w',h1,h2,h3,h4⟩:=iB (P:=ab) (w.alloc (.cells #[u] e (0,0))) 0 t t e i z 1 bytes ht hi hz hsz hby hzs (by decide) v xs.length xs (ho.alloc _)
  ⟨w.heap.size,0,none⟩ 1 1 [u] rfl (fun j y hj=>by
   match j,hj with
   |0,hj=>cases hj;simp[Addr.add]) (fun y hy=>by simp at hy;subst hy;exact hu) (by unfold maxLen;omega) (by omega) (cW _)
 have h2':w'.ownsRow 0 e 1 v' (xs++[u]).length (xs++[u]):=by simpa using h2
 refine⟨v',w',h1,h2',((Keeps.refl _ w).alloc _).grown h3 fun m e=>.inl e,fun k hk=>(h4 k hk).imp id fun h=>by simp at h;omega,?_⟩;rcases h2.2 with⟨_,h⟩|⟨g,cap,cur,h,_⟩
 .omega
 .exact⟨_,_,h⟩
theorem Vj(w:al)(e:ek)(u:cq):(w.alloc (.cells #[u] e (0,0))).ownsRow 0 e 1 (.slice (some ⟨w.heap.size,0,none⟩) 1 1) 1 [u]:=
 ⟨rfl,.inr ⟨_,_,_,rfl,cW _,heap_alloc_new w _,af _,by unfold maxLen;omega,rfl,rfl⟩⟩
structure RwS (w wr:al) (D:Nat->Prop) (b room c:Nat) (F:Files) (v:cq) (vs:List cq) (zs:List (List Rc)):Prop where
 own:wr.ownsRow 0 279 1 v vs.length vs
 ob:∀k,v.ownBlock=some k->w.heap.size<=k
 len:vs.length=zs.length
 row:∃Q:Nat->Prop,(∀k,Q k->w.heap.size<=k∧v.ownBlock≠some k)∧∀(i:Nat) (u:cq) (z:List Rc),vs[i]? =some u->zs[i]? =some z->nK Q wr u z
 disk:aV wr D b room F c
 st:Stp D D w wr
theorem nK.mono{Q Q':Nat->Prop}(h:nK Q w v zs)(hQ:∀k,Q k->k<w.heap.size->Q' k):nK Q' w v zs:=by
 obtain⟨A,cap,h1,h2,h3,h4⟩:=h;exact⟨A,cap,h1,h2,h3,fun a e=>⟨hQ _ (h4 a e).1 (h4 a e).2.1,(h4 a e).2⟩⟩
theorem RwS.add{wr w2:al}{vs:List cq}{zs:List (List Rc)}{z:List Rc}(h:RwS w wr D b room c F v vs zs)(hDw:∀k,D k->k<w.heap.size)(hD2:aV w2 D b room F c)(hst:Stp D D wr w2)(ho:w2.ownsRow wr.heap.size 283 2 u z.length (recs z))(hl:vs.length<1000):
 ∃v' w3,(ba #[352,352] 352 #[v,.slice (some ⟨w2.heap.size,0,none⟩) 1 1]).run ab (w2.alloc (.cells #[u] 279 (0,0)))=.ok v' w3∧RwS w w3 D b room c F v' (vs++[u]) (zs++[z]):=by
 obtain⟨h1,h2,h3,⟨Q,h4,h5⟩,h6,h7⟩:=h;have hob:∀k,v.ownBlock=some k->¬D k:=fun k e hk=>by have:=h2 k e;have:=hDw k hk;omega
 have o2:=hst.1.own h1 hob;have hu:u.oneCell'=true:=by obtain⟨A,cp,rfl⟩:=aW ho;rfl
 obtain⟨v',w3,hrun,o3,k3,n3,_⟩:=yX 352 279 Tryz.t279 (.slice none 0 0) 24 underlying352 rfl rfl rfl rfl rfl (by omega) o2 hu (by omega);have hsz:=h7.1.size;refine⟨v',w3,hrun,o3,fun k e=>(n3 k e).elim (h2 k) fun hh=>by have:=hst.1.size;omega,by simp[h3],⟨fun k=>w.heap.size<=k∧v'.ownBlock≠some k∧k<w2.heap.size,fun k hk=>⟨hk.1,hk.2.1⟩,fun i x y hx hy=>?_⟩,hD2.keep k3 fun k hk e=>hob k e hk,⟨(h7.1.trans hst.1 fun k h=>.inl h).trans k3 fun k e=>.inr (h2 k e),fun k h=>.inl h⟩⟩
 .by_cases hi:i<vs.length
  .rw[a_ hi]at hx;rw[a_ (by omega)]at hy;have r:=h5 i x y hx hy;have r2:=r.keep hst.1 fun k hk hd=>by have:=(h4 k hk).1;have:=hDw k hd;omega
   refine((r2.mono (Q':=fun k=>Q k∧k<w2.heap.size) fun k hk hl=>⟨hk,hl⟩).keep k3 fun k hk e=>(h4 k hk.1).2 e).mono fun k hk _=>⟨(h4 k hk.1).1,fun e=>(n3 k e).elim (h4 k hk.1).2 fun hh=>?_,hk.2⟩
   have:=hk.2;omega
  .rw[bz (by omega)]at hx hy;obtain rfl:i=vs.length:=by
    have:=(ae.1 hx).1;simp at this;omega
   rw[cM]at hx;rw[h3,cM]at hy;obtain rfl:u=x:=by simpa using hx
   obtain rfl:z=y:=by simpa using hy
   have hlt:=fun k e=>bJ h1 k e
   have ou:=k3.own ho fun k e e2=>by have:=gB ho k e;have:=hlt k e2;omega
   refine nK.own ou rfl fun k e=>⟨by have:=gB ho k e;omega,fun e2=>(n3 k e2).elim (fun e3=>?_) fun hh=>?_,bJ ho k e⟩
   .have:=gB ho k e;have:=hlt k e3;omega
   .have:=bJ ho k e;omega
theorem gY{e size:Nat}{A:Option eo}(h:w.ownsRow base e size (.slice A n c) n xs)(hn:0<n):∃g,A=some ⟨g,0,none⟩:=by
 rcases h.2 with⟨_,h⟩|⟨g,cap,cur,h,_⟩
 .omega
 .injection h with h;exact⟨g,h⟩
theorem QZ{K:Nat}(hk:k<K):(strs (F9 K))[k]? =some (.string (rn box (k+1))):=by
 unfold strs F9;rw[ar,ar,List.getElem?_range hk];rfl
theorem ZM(h:wO w D T b bx bF room c0 F A)(hA:A.length<=40):
 bk ab 226 #[.pointer (some ⟨bx,0,none⟩)] w fun e w'=>∃v l,e=.returned (.tuple #[v,.int .i64 0])∧w'.ownsRow w.heap.size 283 2 v l.length (recs l)∧(l.Pairwise fun x y=>x.1<y.1)∧(∀k,iq A k (look l k))∧wO w' D T b bx bF room c0 F A∧Stp D D w w':=by
 obtain⟨⟨M,gI,F',c,hD,hB,hF,hT,hl,hz,hcc⟩,hsep⟩:=h;have hzl:=uK hz;have hB0:=hB;obtain⟨m,v,hs,hM,ho,CV,L_,oV,iy⟩:=hB;have hmem:=EY hs hM (by omega);have HW:=Wo hD hB0 hF hT hz hs hM ho oV iy;clear hD hB0 hF hT hz hs hM ho oV iy;go_enter func226,ntmps226
 go_wp2_with fail
 refine hmem.mono ?_;clear hmem;rintro e w1 ⟨v1,rfl,l1,ho1,hp1,hb1⟩;obtain⟨A1,cp1,rfl⟩:=aW ho1;obtain⟨hD,hB0,hF,hT,hz,hs,hM,ho,oV,iy⟩:=HW.out;have h0:RwS w (w1.alloc (.cells #[.slice A1 M.length cp1] 279 (0,0))) D b room c F' (.slice (some ⟨w1.heap.size,0,none⟩) 1 1) [.slice A1 M.length cp1] [l1]:=by
  have ka:Keeps (fun _=>False) w1 (w1.alloc (.cells #[.slice A1 M.length cp1] 279 (0,0))):=(Keeps.refl _ _).alloc _;have kw:=(Keeps.of_below hb1).trans ka fun _ h=>.inl h
  have z1:=hb1.size;refine⟨Vj w1 279 _,fun k e=>?_,rfl,⟨fun k=>w.heap.size<=k∧k<w1.heap.size,fun k hk=>⟨hk.1,fun e=>?_⟩,fun i u z hu hz=>?_⟩,hD.keep kw fun _ _=>id,⟨kw.mono fun _ _ h=>h.elim,fun _ h=>.inl h⟩⟩
  .injection e with e;subst e;exact z1
  .injection e with e;have:w1.heap.size=k:=e;omega
  .match i,hu,hz with
   |0,hu,hz=>
    cases hu;cases hz;exact nK.own (ka.own ho1 fun _ _=>id) hp1.length_eq fun k e=>⟨gB ho1 k e,bJ ho1 k e⟩
 have s1:=hs.keep h0.st.1 (hsep _ CV);have c5:=s1.cell 5 rfl;have H0:=Y1 h0;have H1:=Y1 hp1;obtain⟨Af,cpf,rfl⟩:=aW ho;clear hD hB0 hF hT hz hs hM ho oV iy h0 s1 ho1 hp1 hb1;have hk0:gI.length<=40:=by omega
 generalize hkz:gI.length=K at*;have HK:=Y1 hkz;clear hkz;rw[show(F9 K).length=K from o9 K]at c5
 go_wp2_with fail
 go_loopg [4,17] K (fun kq v4 v17 wr=>∃k:Nat,kq+k=K∧v17=.int .i64 (k:Nat)∧aG (∃vs,RwS w wr D b room c F' v4 vs (l1::gI.take k)))
 case atStart=>exact⟨0,by omega,rfl,⟨_,H0.out⟩⟩
 case round=>
  obtain⟨k,hk,rfl,hA2⟩:=hrel;obtain⟨vs,hR⟩:=hA2.out;by_cases hlt:k<K
  .have hlt':(k:Int)<K:=by omega
   obtain⟨hD,hB0,hF,hT,hz,hs,hM,ho,oV,iy⟩:=HW.out;have sr:=hs.keep hR.st.1 (hsep _ CV);have c0':=sr.cell 0 rfl;have or:=hR.st.1.own ho fun j e=>hsep _ (oV j e)
   rw[o9]at or;obtain⟨gf,rfl⟩:=gY or (by omega);obtain⟨g',e',hcells,-⟩:=dZ or;injection e' with e';subst e';have cf:=hcells k _ (QZ hlt);obtain⟨zk,ZN⟩:∃zk,gI[k]? =some zk:=⟨_,ai (by rw[HK.out];omega)⟩
   have hzm:=an ZN;have agi:=(List.sublist_flatten_of_mem hzm).length_le;have hrd:=Yn hR.disk (rn box (k+1)) (by have:=(yV (k:=k+1) (by omega)).2;unfold maxLen;omega) (hF.at_ k zk ZN) rfl (by omega) (hz zk hzm).2;have htk:gI.take (k+1)=gI.take k++[zk]:=by rw[de,ZN];rfl
   have hDl:∀j,D j->j<w.heap.size:=fun j h=>hD.lt h
   have hvl:vs.length=k+1:=by rw[hR.len,ca,dg,HK.out];omega
   obtain⟨A4,cp4,rfl⟩:=aW hR.own;have HR:=Y4 hR htk hDl hvl;clear hD hB0 hF hT hz hs hM ho oV iy sr or hcells ZN hzm agi hR hA2 htk hDl hvl
   go_wp2_with fail
   refine hrd.mono ?_;clear hrd;rintro e w3 ⟨v3,rfl,ho3,hD3,wM⟩;obtain⟨hR,htk,hDl,hvl⟩:=HR.out;obtain⟨v5,w5,hrun,ZO⟩:=hR.add hDl hD3 wM ho3 (by omega);rw[show((l1::gI.take k)++[zk])=l1::gI.take (k+1) by rw[htk];rfl]at ZO;obtain⟨A3,wm,rfl⟩:=aW ho3;have H5:=Y1 (show ∃vs,RwS w w5 D b room c F' v5 vs (l1::gI.take (k+1))from⟨_,ZO⟩);obtain⟨k1,hk1⟩:∃k1,k1+(k+1)=K:=⟨K-(k+1),by omega⟩
   clear hR htk hDl hvl ZO ho3 hD3 wM
   go_wp2_with (at_builtin;refine dh rfl _ _ 352 352 rfl (by simp[cG]) (by simp[cG]) hrun ?_;clear hrun)
   go_roundg k1
   case measure=>omega
   case rel=>exact⟨k+1,by omega,by simp,H5⟩
  .have hkk:k=K:=by omega
   subst hkk;have hlt':¬(k:Int)<k:=by omega
   rw[cx (by rw[HK.out];omega)]at hR;obtain⟨hD,hB0,hF,hT,hz,hs,hM,ho,oV,iy⟩:=HW.out;have sr:=hs.keep hR.st.1 (hsep _ CV);have c3':=sr.cell 3 rfl;have hvl:vs.length=k+1:=by rw[hR.len,ca,HK.out]
   obtain⟨A4,cp4,rfl⟩:=aW hR.own;obtain⟨g4,rfl⟩:=gY hR.own (by omega);obtain⟨g',e',hcells,-⟩:=dZ hR.own;injection e' with e';subst e';obtain⟨Q,hQ,hrow⟩:=hR.row;have hfl:(l1::gI).flatten.length<=A.length:=by
    rw[cI,aw,H1.out.length_eq];exact hl
   have hmg:=UM (w:=wr) (zs:=l1::gI) ⟨g4,0,cp4,vs,by rw[<-hR.len],bJ hR.own _ rfl,hR.len,fun i u hi=>by simpa using hcells i u hi,fun i u z hi hz=>by
    obtain⟨A',cap,h1,h2,h3,h4⟩:=hrow i u z hi hz;exact⟨A',cap,h1,h3,fun a e=>(h4 a e).2⟩⟩ (by simp) (by omega) (by rw[ca,HK.out];omega)
   have HR:=Y2 hR.disk hR.st;clear hD hB0 hF hT hz hs hM ho oV iy sr hcells hR hA2 hvl hQ hrow hfl
   go_wp2_with fail
   refine hmg.mono ?_;clear hmg;rintro e w3 ⟨v3,rfl,s,ho3,hp3,hs3,hb3⟩;have H3:=Y4 ho3 hp3 hs3 hb3;clear ho3 hp3 hs3 hb3
   go_wp2_with fail
   refine bodyPost_ret (results_tmp2 rfl _ _ _) rfl ?_;obtain⟨hD,hB0,hF,hT,hz,hs,hM,ho,oV,iy⟩:=HW.out;obtain⟨ho3,hp3,hs3,hb3⟩:=H3.out;obtain⟨pU,hst⟩:=HR.out;obtain⟨m1,m2⟩:=merged hs3 hp3;have hE:sD (l1::gI).flatten A:=by
    rw[cI];exact sD.trans (sD.perm (List.Perm.append_right _ H1.out)) hT
   have k3:=hst.1.below hb3;exact⟨_,_,rfl,own_base' ho3 hst.1.size,m1,fun j=>hE _ _ (m2 j),⟨⟨M,gI,F',c,pU.keep (Keeps.of_below (S:=fun _=>False) hb3) fun _ _=>id,by rw[HK.out];exact hB0.keep k3 hsep,hF,hT,by have:=H1.out.length_eq;omega,hz,hcc⟩,hsep⟩,⟨k3,hst.2⟩⟩
end Go.Proofs.YtlhhcnknclnlaaaGreatDoor.Top
